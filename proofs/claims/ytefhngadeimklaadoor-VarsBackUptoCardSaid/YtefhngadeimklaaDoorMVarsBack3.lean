/- Contracts of Go functions and plain facts, of several texts, one behind the other; no condition. -/
import Derived.Test.YtefhngadeimklaaDoorMVarsBack1
import Derived.Test.YtefhngadeimklaaDoorMVarsBack2
import Derived.Lib.IndexLaws
import Derived.Laws.Cover1
import Derived.Deep.QuietTactic
import Derived.BigQuiet
section
namespace Go.Proofs.YtefhngadeimklaaDoor.Q
open Go.RowKit Go.Proofs.YtefhngadeimklaaDoorW.PrintWords Go.Proofs.YtefhngadeimklaaDoorW.PrintLast Go.Proofs.YtefhngadeimklaaDoorW.PrintMore
set_option linter.unusedVariables false
set_option linter.unusedSimpArgs false

attribute [local go_sem] max2_int min2_int max_two min_two max_three min_three max_four min_four
/-! ### tinderref19_Form: function 18 -/
def tinderref19_Form.l0 : Nat → ByteArray → Int → Option (ByteArray × Int)
  | 0, _, _ => none
  | k + 1, x1, x14 => if x14 < (x1.size : Int) then (if 0 ≤ x14 then (if (bt x1 x14) < 32 then (some ((⟨#[]⟩ : ByteArray), 27)) else (if (bt x1 x14) > 126 then (some ((⟨#[]⟩ : ByteArray), 27)) else (tinderref19_Form.l0 k x1 (wrap64 (x14 + 1))))) else (none)) else (if (x1.size : Int) ≤ 128 then (some (x1, 0)) else (some ((⟨#[]⟩ : ByteArray), 27)))
def tinderref19_Form.f (k : Nat) (a0 : ByteArray) (a1 : ByteArray) : Option (ByteArray × Int) := (tinderref19_find.f k a0).bind fun t19001 => (if t19001 < 0 then (some ((⟨#[]⟩ : ByteArray), 2)) else ((tinderref19_Variable.f t19001).bind fun bt19002 => (if bt19002.2.1 = 98 then (if a1.toList = ([116, 114, 117, 101] : List UInt8) then (some (a1, 0)) else (if a1.toList = ([102, 97, 108, 115, 101] : List UInt8) then (some (a1, 0)) else (some ((⟨#[]⟩ : ByteArray), 27)))) else (if bt19002.2.1 = 110 then ((tinderref02_Parse.f k a1 10).bind fun bt19005 => (if bt19005.2 = 0 then ((tinderref02_Show.f bt19005.1 10).bind fun bt19007 => (some (bt19007.1, 0))) else (some ((⟨#[]⟩ : ByteArray), 27)))) else (tinderref19_Form.l0 k a1 0)))))
theorem tinderref19_Form.mono_l : ∀ k, (∀ y0 y1, LeO (tinderref19_Form.l0 k y0 y1) (tinderref19_Form.l0 (k + 1) y0 y1))
  | 0 => fun _ _ r h => by simp [tinderref19_Form.l0] at h
  | k + 1 => by
    have ih0 := tinderref19_Form.mono_l k
    · intro y0 y1
      unfold tinderref19_Form.l0
      repeat' first
      | (with_reducible exact ih0 _ _)
      | (with_reducible exact tinderref02_Parse.mono _ _ _)
      | (with_reducible exact tinderref19_find.mono _ _)
      | (with_reducible exact LeO.refl _)
      | (with_reducible exact LeO.none _)
      | (with_reducible refine LeO.ite ?_ ?_)
      | (with_reducible refine LeO.bind ?_ (fun _ => ?_))
      | exact ih0 _ _
      | exact tinderref02_Parse.mono _ _ _
      | exact tinderref19_find.mono _ _
      | exact LeO.none _
      | refine LeO.ite ?_ ?_
      | refine LeO.bind ?_ (fun _ => ?_)
theorem tinderref19_Form.mono : ∀ a0 a1 k, LeO (tinderref19_Form.f k a0 a1) (tinderref19_Form.f (k + 1) a0 a1) := by
  intro a0 a1 k
  have ih0 := tinderref19_Form.mono_l k
  unfold tinderref19_Form.f
  repeat' first
      | (with_reducible exact ih0 _ _)
      | (with_reducible exact tinderref02_Parse.mono _ _ _)
      | (with_reducible exact tinderref19_find.mono _ _)
      | (with_reducible exact LeO.refl _)
      | (with_reducible exact LeO.none _)
      | (with_reducible refine LeO.ite ?_ ?_)
      | (with_reducible refine LeO.bind ?_ (fun _ => ?_))
      | exact ih0 _ _
      | exact tinderref02_Parse.mono _ _ _
      | exact tinderref19_find.mono _ _
      | exact LeO.none _
      | refine LeO.ite ?_ ?_
      | refine LeO.bind ?_ (fun _ => ?_)
set_option maxHeartbeats 8000000 in
set_option maxRecDepth 100000 in
theorem tinderref19_Form.calls (k : Nat) (a0 : ByteArray) (a1 : ByteArray) (r1 : ByteArray) (r2 : Int) (w : World) (h : tinderref19_Form.f k a0 a1 = some (r1, r2)) :
    Calls Tryd.prog 18 #[.string a0, .string a1] w fun e w' => e = .returned (.tuple #[.string r1, .int .i64 r2]) ∧ Below w.heap.size w w' := by
  have HB := Aside0.mk (Below.refl w.heap.size w)
  have H : ((tinderref19_find.f k a0).bind fun t19001 => (if t19001 < 0 then (some ((⟨#[]⟩ : ByteArray), 2)) else ((tinderref19_Variable.f t19001).bind fun bt19002 => (if bt19002.2.1 = 98 then (if a1.toList = ([116, 114, 117, 101] : List UInt8) then (some (a1, 0)) else (if a1.toList = ([102, 97, 108, 115, 101] : List UInt8) then (some (a1, 0)) else (some ((⟨#[]⟩ : ByteArray), 27)))) else (if bt19002.2.1 = 110 then ((tinderref02_Parse.f k a1 10).bind fun bt19005 => (if bt19005.2 = 0 then ((tinderref02_Show.f bt19005.1 10).bind fun bt19007 => (some (bt19007.1, 0))) else (some ((⟨#[]⟩ : ByteArray), 27)))) else (tinderref19_Form.l0 k a1 0)))))) = some (r1, r2) := h
  clear h
  replace H := Option.bind_eq_some_iff.mp H
  obtain ⟨t19001, A30, H⟩ := H
  replace H : (if t19001 < 0 then (some ((⟨#[]⟩ : ByteArray), 2)) else ((tinderref19_Variable.f t19001).bind fun bt19002 => (if bt19002.2.1 = 98 then (if a1.toList = ([116, 114, 117, 101] : List UInt8) then (some (a1, 0)) else (if a1.toList = ([102, 97, 108, 115, 101] : List UInt8) then (some (a1, 0)) else (some ((⟨#[]⟩ : ByteArray), 27)))) else (if bt19002.2.1 = 110 then ((tinderref02_Parse.f k a1 10).bind fun bt19005 => (if bt19005.2 = 0 then ((tinderref02_Show.f bt19005.1 10).bind fun bt19007 => (some (bt19007.1, 0))) else (some ((⟨#[]⟩ : ByteArray), 27)))) else (tinderref19_Form.l0 k a1 0))))) = some (r1, r2) := H
  have A3 := Aside0.mk A30
  clear A30
  by_cases c4 : t19001 < 0
  · rw [if_pos c4] at H
    have c4b0 : decide (t19001 < 0) = true := decide_eq_true c4
    clear c4
    simp only [Option.some.injEq, Prod.mk.injEq] at H
    obtain ⟨rfl, rfl⟩ := H
    go_enter Tryd.func18, Tryd.ntmps18
    go_wp2_with (first | ((with_reducible refine gate_callee (f := 46) rfl ?_); refine goesL_ (some 16) rfl rfl Tryd.func46 (by kernel_rfl) rfl #[.string a0] rfl (by (try simp only [List.map_toArray, List.map_cons, List.map_nil]); first | done | rfl | (simp only [List.length_drop, List.length_take]; rfl)) ?_; (with_reducible refine (tinderref19_find.calls k a0 t19001 _ A3.out).mono ?_); rintro e w' ⟨rfl, ⟨nd, rfl⟩⟩; refine ⟨_, rfl, ?_⟩))
    go_ret2
    exact ⟨by first | rfl | (simp [errW_none, errW_some] <;> rfl) | (simp [*, errW_none, errW_some] <;> rfl), by repeat (first | (with_reducible first | exact HB.out | apply below_alloc | apply pw_below_drewN | apply below_drew1) | exact HB.out)⟩
  · rw [if_neg c4] at H
    have c4b0 : decide (t19001 < 0) = false := decide_eq_false c4
    clear c4
    replace H := Option.bind_eq_some_iff.mp H
    obtain ⟨⟨t19002, t19003, t19004⟩, A50, H⟩ := H
    replace H : (if t19003 = 98 then (if a1.toList = ([116, 114, 117, 101] : List UInt8) then (some (a1, 0)) else (if a1.toList = ([102, 97, 108, 115, 101] : List UInt8) then (some (a1, 0)) else (some ((⟨#[]⟩ : ByteArray), 27)))) else (if t19003 = 110 then ((tinderref02_Parse.f k a1 10).bind fun bt19005 => (if bt19005.2 = 0 then ((tinderref02_Show.f bt19005.1 10).bind fun bt19007 => (some (bt19007.1, 0))) else (some ((⟨#[]⟩ : ByteArray), 27)))) else (tinderref19_Form.l0 k a1 0))) = some (r1, r2) := H
    have A5 := Aside0.mk A50
    clear A50
    by_cases c6 : t19003 = 98
    · rw [if_pos c6] at H
      have c6b0 : (t19003 == 98) = true := beq_iff_eq.mpr c6
      have c6b1 : (t19003 != 98) = false := bne_eq_false_iff_eq.mpr c6
      clear c6
      by_cases c7 : a1.toList = ([116, 114, 117, 101] : List UInt8)
      · rw [if_pos c7] at H
        have c7b0 : (a1.toList == ([116, 114, 117, 101] : List UInt8)) = true := beq_iff_eq.mpr c7
        have c7b1 : (a1.toList != ([116, 114, 117, 101] : List UInt8)) = false := bne_eq_false_iff_eq.mpr c7
        clear c7
        simp only [Option.some.injEq, Prod.mk.injEq] at H
        obtain ⟨rfl, rfl⟩ := H
        go_enter Tryd.func18, Tryd.ntmps18
        go_wp2_with (first | ((with_reducible refine gate_callee (f := 46) rfl ?_); refine goesL_ (some 16) rfl rfl Tryd.func46 (by kernel_rfl) rfl #[.string a0] rfl (by (try simp only [List.map_toArray, List.map_cons, List.map_nil]); first | done | rfl | (simp only [List.length_drop, List.length_take]; rfl)) ?_; (with_reducible refine (tinderref19_find.calls k a0 t19001 _ A3.out).mono ?_); rintro e w' ⟨rfl, ⟨nd, rfl⟩⟩; refine ⟨_, rfl, ?_⟩) | ((with_reducible refine gate_callee (f := 47) rfl ?_); refine goesL_ (some 21) rfl rfl Tryd.func47 (by kernel_rfl) rfl #[.int .i64 t19001] rfl (by (try simp only [List.map_toArray, List.map_cons, List.map_nil]); first | done | rfl | (simp only [List.length_drop, List.length_take]; rfl)) ?_; (with_reducible refine (tinderref19_Variable.calls t19001 t19002 t19003 t19004 _ A5.out).mono ?_); rintro e w' ⟨rfl, ⟨nd, rfl⟩⟩; refine ⟨_, rfl, ?_⟩))
        go_ret2
        exact ⟨by first | rfl | (simp [errW_none, errW_some] <;> rfl) | (simp [*, errW_none, errW_some] <;> rfl), by repeat (first | (with_reducible first | exact HB.out | apply below_alloc | apply pw_below_drewN | apply below_drew1) | exact HB.out)⟩
      · rw [if_neg c7] at H
        have c7b0 : (a1.toList == ([116, 114, 117, 101] : List UInt8)) = false := beq_eq_false_iff_ne.mpr c7
        have c7b1 : (a1.toList != ([116, 114, 117, 101] : List UInt8)) = true := bne_iff_ne.mpr c7
        by_cases c8 : a1.toList = ([102, 97, 108, 115, 101] : List UInt8)
        · rw [if_pos c8] at H
          have c8b0 : (a1.toList == ([102, 97, 108, 115, 101] : List UInt8)) = true := beq_iff_eq.mpr c8
          have c8b1 : (a1.toList != ([102, 97, 108, 115, 101] : List UInt8)) = false := bne_eq_false_iff_eq.mpr c8
          clear c8
          simp only [Option.some.injEq, Prod.mk.injEq] at H
          obtain ⟨rfl, rfl⟩ := H
          go_enter Tryd.func18, Tryd.ntmps18
          go_wp2_with (first | ((with_reducible refine gate_callee (f := 46) rfl ?_); refine goesL_ (some 16) rfl rfl Tryd.func46 (by kernel_rfl) rfl #[.string a0] rfl (by (try simp only [List.map_toArray, List.map_cons, List.map_nil]); first | done | rfl | (simp only [List.length_drop, List.length_take]; rfl)) ?_; (with_reducible refine (tinderref19_find.calls k a0 t19001 _ A3.out).mono ?_); rintro e w' ⟨rfl, ⟨nd, rfl⟩⟩; refine ⟨_, rfl, ?_⟩) | ((with_reducible refine gate_callee (f := 47) rfl ?_); refine goesL_ (some 21) rfl rfl Tryd.func47 (by kernel_rfl) rfl #[.int .i64 t19001] rfl (by (try simp only [List.map_toArray, List.map_cons, List.map_nil]); first | done | rfl | (simp only [List.length_drop, List.length_take]; rfl)) ?_; (with_reducible refine (tinderref19_Variable.calls t19001 t19002 t19003 t19004 _ A5.out).mono ?_); rintro e w' ⟨rfl, ⟨nd, rfl⟩⟩; refine ⟨_, rfl, ?_⟩))
          go_ret2
          exact ⟨by first | rfl | (simp [errW_none, errW_some] <;> rfl) | (simp [*, errW_none, errW_some] <;> rfl), by repeat (first | (with_reducible first | exact HB.out | apply below_alloc | apply pw_below_drewN | apply below_drew1) | exact HB.out)⟩
        · rw [if_neg c8] at H
          have c8b0 : (a1.toList == ([102, 97, 108, 115, 101] : List UInt8)) = false := beq_eq_false_iff_ne.mpr c8
          have c8b1 : (a1.toList != ([102, 97, 108, 115, 101] : List UInt8)) = true := bne_iff_ne.mpr c8
          simp only [Option.some.injEq, Prod.mk.injEq] at H
          obtain ⟨rfl, rfl⟩ := H
          go_enter Tryd.func18, Tryd.ntmps18
          go_wp2_with (first | ((with_reducible refine gate_callee (f := 46) rfl ?_); refine goesL_ (some 16) rfl rfl Tryd.func46 (by kernel_rfl) rfl #[.string a0] rfl (by (try simp only [List.map_toArray, List.map_cons, List.map_nil]); first | done | rfl | (simp only [List.length_drop, List.length_take]; rfl)) ?_; (with_reducible refine (tinderref19_find.calls k a0 t19001 _ A3.out).mono ?_); rintro e w' ⟨rfl, ⟨nd, rfl⟩⟩; refine ⟨_, rfl, ?_⟩) | ((with_reducible refine gate_callee (f := 47) rfl ?_); refine goesL_ (some 21) rfl rfl Tryd.func47 (by kernel_rfl) rfl #[.int .i64 t19001] rfl (by (try simp only [List.map_toArray, List.map_cons, List.map_nil]); first | done | rfl | (simp only [List.length_drop, List.length_take]; rfl)) ?_; (with_reducible refine (tinderref19_Variable.calls t19001 t19002 t19003 t19004 _ A5.out).mono ?_); rintro e w' ⟨rfl, ⟨nd, rfl⟩⟩; refine ⟨_, rfl, ?_⟩))
          go_ret2
          exact ⟨by first | rfl | (simp [errW_none, errW_some] <;> rfl) | (simp [*, errW_none, errW_some] <;> rfl), by repeat (first | (with_reducible first | exact HB.out | apply below_alloc | apply pw_below_drewN | apply below_drew1) | exact HB.out)⟩
    · rw [if_neg c6] at H
      have c6b0 : (t19003 == 98) = false := beq_eq_false_iff_ne.mpr c6
      have c6b1 : (t19003 != 98) = true := bne_iff_ne.mpr c6
      by_cases c9 : t19003 = 110
      · rw [if_pos c9] at H
        have c9b0 : (t19003 == 110) = true := beq_iff_eq.mpr c9
        have c9b1 : (t19003 != 110) = false := bne_eq_false_iff_eq.mpr c9
        clear c9
        replace H := Option.bind_eq_some_iff.mp H
        obtain ⟨⟨t19005, t19006⟩, A100, H⟩ := H
        replace H : (if t19006 = 0 then ((tinderref02_Show.f t19005 10).bind fun bt19007 => (some (bt19007.1, 0))) else (some ((⟨#[]⟩ : ByteArray), 27))) = some (r1, r2) := H
        have A10 := Aside0.mk A100
        clear A100
        by_cases c11 : t19006 = 0
        · rw [if_pos c11] at H
          have c11b0 : (t19006 == 0) = true := beq_iff_eq.mpr c11
          have c11b1 : (t19006 != 0) = false := bne_eq_false_iff_eq.mpr c11
          clear c11
          replace H := Option.bind_eq_some_iff.mp H
          obtain ⟨⟨t19007, t19008⟩, A120, H⟩ := H
          replace H : (some (t19007, 0)) = some (r1, r2) := H
          have A12 := Aside0.mk A120
          clear A120
          simp only [Option.some.injEq, Prod.mk.injEq] at H
          obtain ⟨rfl, rfl⟩ := H
          go_enter Tryd.func18, Tryd.ntmps18
          go_wp2_with (first | ((with_reducible refine gate_callee (f := 46) rfl ?_); refine goesL_ (some 16) rfl rfl Tryd.func46 (by kernel_rfl) rfl #[.string a0] rfl (by (try simp only [List.map_toArray, List.map_cons, List.map_nil]); first | done | rfl | (simp only [List.length_drop, List.length_take]; rfl)) ?_; (with_reducible refine (tinderref19_find.calls k a0 t19001 _ A3.out).mono ?_); rintro e w' ⟨rfl, ⟨nd, rfl⟩⟩; refine ⟨_, rfl, ?_⟩) | ((with_reducible refine gate_callee (f := 47) rfl ?_); refine goesL_ (some 21) rfl rfl Tryd.func47 (by kernel_rfl) rfl #[.int .i64 t19001] rfl (by (try simp only [List.map_toArray, List.map_cons, List.map_nil]); first | done | rfl | (simp only [List.length_drop, List.length_take]; rfl)) ?_; (with_reducible refine (tinderref19_Variable.calls t19001 t19002 t19003 t19004 _ A5.out).mono ?_); rintro e w' ⟨rfl, ⟨nd, rfl⟩⟩; refine ⟨_, rfl, ?_⟩) | ((with_reducible refine gate_callee (f := 48) rfl ?_); refine goesL_ (some 59) rfl rfl Tryd.func48 (by kernel_rfl) rfl #[.string a1, .int .u32 10] rfl (by (try simp only [List.map_toArray, List.map_cons, List.map_nil]); first | done | rfl | (simp only [List.length_drop, List.length_take]; rfl)) ?_; (with_reducible refine (tinderref02_Parse.calls k a1 10 t19005 t19006 _ A10.out).mono ?_); rintro e w' ⟨rfl, ⟨nd, rfl⟩⟩; refine ⟨_, rfl, ?_⟩) | ((with_reducible refine gate_callee (f := 49) rfl ?_); refine goesL_ (some 66) rfl rfl Tryd.func49 (by kernel_rfl) rfl #[.int .u32 t19005, .int .u32 10] rfl (by (try simp only [List.map_toArray, List.map_cons, List.map_nil]); first | done | rfl | (simp only [List.length_drop, List.length_take]; rfl)) ?_; (with_reducible refine (tinderref02_Show.calls t19005 10 t19007 t19008 _ A12.out).mono ?_); rintro e w13 ⟨rfl, hb⟩; refine ⟨_, rfl, ?_⟩; have n0_ := Aside0.mk (below_step (by repeat (first | (with_reducible first | exact HB.out | apply below_alloc | apply pw_below_drewN | apply below_drew1) | exact HB.out)) hb); clear HB; have HB := n0_; clear n0_; (try clear hb); (try clear hb2); (try clear hk); (try clear hi)))
          go_ret2
          exact ⟨by first | rfl | (simp [errW_none, errW_some] <;> rfl) | (simp [*, errW_none, errW_some] <;> rfl), by repeat (first | (with_reducible first | exact HB.out | apply below_alloc | apply pw_below_drewN | apply below_drew1) | exact HB.out)⟩
        · rw [if_neg c11] at H
          have c11b0 : (t19006 == 0) = false := beq_eq_false_iff_ne.mpr c11
          have c11b1 : (t19006 != 0) = true := bne_iff_ne.mpr c11
          simp only [Option.some.injEq, Prod.mk.injEq] at H
          obtain ⟨rfl, rfl⟩ := H
          go_enter Tryd.func18, Tryd.ntmps18
          go_wp2_with (first | ((with_reducible refine gate_callee (f := 46) rfl ?_); refine goesL_ (some 16) rfl rfl Tryd.func46 (by kernel_rfl) rfl #[.string a0] rfl (by (try simp only [List.map_toArray, List.map_cons, List.map_nil]); first | done | rfl | (simp only [List.length_drop, List.length_take]; rfl)) ?_; (with_reducible refine (tinderref19_find.calls k a0 t19001 _ A3.out).mono ?_); rintro e w' ⟨rfl, ⟨nd, rfl⟩⟩; refine ⟨_, rfl, ?_⟩) | ((with_reducible refine gate_callee (f := 47) rfl ?_); refine goesL_ (some 21) rfl rfl Tryd.func47 (by kernel_rfl) rfl #[.int .i64 t19001] rfl (by (try simp only [List.map_toArray, List.map_cons, List.map_nil]); first | done | rfl | (simp only [List.length_drop, List.length_take]; rfl)) ?_; (with_reducible refine (tinderref19_Variable.calls t19001 t19002 t19003 t19004 _ A5.out).mono ?_); rintro e w' ⟨rfl, ⟨nd, rfl⟩⟩; refine ⟨_, rfl, ?_⟩) | ((with_reducible refine gate_callee (f := 48) rfl ?_); refine goesL_ (some 59) rfl rfl Tryd.func48 (by kernel_rfl) rfl #[.string a1, .int .u32 10] rfl (by (try simp only [List.map_toArray, List.map_cons, List.map_nil]); first | done | rfl | (simp only [List.length_drop, List.length_take]; rfl)) ?_; (with_reducible refine (tinderref02_Parse.calls k a1 10 t19005 t19006 _ A10.out).mono ?_); rintro e w' ⟨rfl, ⟨nd, rfl⟩⟩; refine ⟨_, rfl, ?_⟩))
          go_ret2
          exact ⟨by first | rfl | (simp [errW_none, errW_some] <;> rfl) | (simp [*, errW_none, errW_some] <;> rfl), by repeat (first | (with_reducible first | exact HB.out | apply below_alloc | apply pw_below_drewN | apply below_drew1) | exact HB.out)⟩
      · rw [if_neg c9] at H
        have c9b0 : (t19003 == 110) = false := beq_eq_false_iff_ne.mpr c9
        have c9b1 : (t19003 != 110) = true := bne_iff_ne.mpr c9
        have H' := Aside0.mk H
        clear H
        go_enter Tryd.func18, Tryd.ntmps18
        go_wp2_with (first | ((with_reducible refine gate_callee (f := 46) rfl ?_); refine goesL_ (some 16) rfl rfl Tryd.func46 (by kernel_rfl) rfl #[.string a0] rfl (by (try simp only [List.map_toArray, List.map_cons, List.map_nil]); first | done | rfl | (simp only [List.length_drop, List.length_take]; rfl)) ?_; (with_reducible refine (tinderref19_find.calls k a0 t19001 _ A3.out).mono ?_); rintro e w' ⟨rfl, ⟨nd, rfl⟩⟩; refine ⟨_, rfl, ?_⟩) | ((with_reducible refine gate_callee (f := 47) rfl ?_); refine goesL_ (some 21) rfl rfl Tryd.func47 (by kernel_rfl) rfl #[.int .i64 t19001] rfl (by (try simp only [List.map_toArray, List.map_cons, List.map_nil]); first | done | rfl | (simp only [List.length_drop, List.length_take]; rfl)) ?_; (with_reducible refine (tinderref19_Variable.calls t19001 t19002 t19003 t19004 _ A5.out).mono ?_); rintro e w' ⟨rfl, ⟨nd, rfl⟩⟩; refine ⟨_, rfl, ?_⟩))
        go_loopg [14] k (fun kq v14 w' => ∃ (x14_1 : Int), v14 = .int .i64 x14_1 ∧ Aside0 (tinderref19_Form.l0 kq a1 x14_1 = some (r1, r2)) ∧ Aside0 (kq ≤ k) ∧ Aside0 (Below w.heap.size w w'))
        case atStart => exact ⟨(0), (by first | rfl | (simp; done) | (simp [*]; done)), H', ⟨Nat.le_refl _⟩, ⟨by repeat (first | (with_reducible first | exact HB.out | apply below_alloc | apply pw_below_drewN | apply below_drew1) | exact HB.out)⟩⟩
        case round =>
          clear H'
          try clear c1
          try clear p2
          try clear c4
          try clear c4b0
          try clear c6
          try clear c6b0
          try clear c6b1
          try clear c7
          try clear c7b0
          try clear c7b1
          try clear c8
          try clear c8b0
          try clear c8b1
          try clear c9
          try clear c9b0
          try clear c9b1
          try clear c11
          try clear c11b0
          try clear c11b1
          obtain ⟨x14_1, rfl, HA, HK1, HB⟩ := hrel
          cases gk with
          | zero => exact absurd HA.out (by simp [tinderref19_Form.l0])
          | succ k1 =>
            have H := HA.out
            clear HA
            simp only [tinderref19_Form.l0] at H
            by_cases c14 : x14_1 < (a1.size : Int)
            · rw [if_pos c14] at H
              have c14b0 : decide (x14_1 < (a1.size : Int)) = true := decide_eq_true c14
              clear c14
              by_cases c15 : 0 ≤ x14_1
              · rw [if_pos c15] at H
                have c15b0 : decide (0 ≤ x14_1) = true := decide_eq_true c15
                clear c15
                by_cases c17 : (bt a1 x14_1) < 32
                · rw [if_pos c17] at H
                  have c17b0 : decide ((bt a1 x14_1) < 32) = true := decide_eq_true c17
                  clear c17
                  simp only [Option.some.injEq, Prod.mk.injEq] at H
                  obtain ⟨rfl, rfl⟩ := H
                  have p16 : 0 ≤ (x14_1 : Int) := of_decide_eq_true (by first | (with_reducible assumption) | assumption)
                  have q16 : x14_1 < (a1.size : Int) := of_decide_eq_true (by first | (with_reducible assumption) | assumption)
                  have hx16 := bt_at a1 x14_1
                  replace p16 := eq_true p16
                  replace q16 := eq_true q16
                  go_wp2
                  go_ret2
                  exact ⟨by first | rfl | (simp [errW_none, errW_some] <;> rfl) | (simp [*, errW_none, errW_some] <;> rfl), by repeat (first | (with_reducible first | exact HB.out | apply below_alloc | apply pw_below_drewN | apply below_drew1) | exact HB.out)⟩
                · rw [if_neg c17] at H
                  have c17b0 : decide ((bt a1 x14_1) < 32) = false := decide_eq_false c17
                  clear c17
                  by_cases c19 : (bt a1 x14_1) > 126
                  · rw [if_pos c19] at H
                    have c19b0 : decide (126 < (bt a1 x14_1)) = true := decide_eq_true c19
                    clear c19
                    simp only [Option.some.injEq, Prod.mk.injEq] at H
                    obtain ⟨rfl, rfl⟩ := H
                    have p16 : 0 ≤ (x14_1 : Int) := of_decide_eq_true (by first | (with_reducible assumption) | assumption)
                    have q16 : x14_1 < (a1.size : Int) := of_decide_eq_true (by first | (with_reducible assumption) | assumption)
                    have hx16 := bt_at a1 x14_1
                    replace p16 := eq_true p16
                    replace q16 := eq_true q16
                    have p18 : 0 ≤ (x14_1 : Int) := of_decide_eq_true (by first | (with_reducible assumption) | assumption)
                    have q18 : x14_1 < (a1.size : Int) := of_decide_eq_true (by first | (with_reducible assumption) | assumption)
                    have hx18 := bt_at a1 x14_1
                    replace p18 := eq_true p18
                    replace q18 := eq_true q18
                    go_wp2
                    go_ret2
                    exact ⟨by first | rfl | (simp [errW_none, errW_some] <;> rfl) | (simp [*, errW_none, errW_some] <;> rfl), by repeat (first | (with_reducible first | exact HB.out | apply below_alloc | apply pw_below_drewN | apply below_drew1) | exact HB.out)⟩
                  · rw [if_neg c19] at H
                    have c19b0 : decide (126 < (bt a1 x14_1)) = false := decide_eq_false c19
                    clear c19
                    have H' := Aside0.mk H
                    clear H
                    have p16 : 0 ≤ (x14_1 : Int) := of_decide_eq_true (by first | (with_reducible assumption) | assumption)
                    have q16 : x14_1 < (a1.size : Int) := of_decide_eq_true (by first | (with_reducible assumption) | assumption)
                    have hx16 := bt_at a1 x14_1
                    replace p16 := eq_true p16
                    replace q16 := eq_true q16
                    have p18 : 0 ≤ (x14_1 : Int) := of_decide_eq_true (by first | (with_reducible assumption) | assumption)
                    have q18 : x14_1 < (a1.size : Int) := of_decide_eq_true (by first | (with_reducible assumption) | assumption)
                    have hx18 := bt_at a1 x14_1
                    replace p18 := eq_true p18
                    replace q18 := eq_true q18
                    go_wp2
                    go_roundg k1
                    case measure => have := HK1.out; omega
                    case rel => exact ⟨(wrap64 (x14_1 + 1)), (by first | rfl | (simp; done) | (simp [*]; done)), H', ⟨by have := HK1.out; omega⟩, ⟨by repeat (first | (with_reducible first | exact HB.out | apply below_alloc | apply pw_below_drewN | apply below_drew1) | exact HB.out)⟩⟩
              · rw [if_neg c15] at H
                exact absurd H (by simp)
            · rw [if_neg c14] at H
              have c14b0 : decide (x14_1 < (a1.size : Int)) = false := decide_eq_false c14
              clear c14
              by_cases c20 : (a1.size : Int) ≤ 128
              · rw [if_pos c20] at H
                have c20b0 : decide ((a1.size : Int) ≤ 128) = true := decide_eq_true c20
                have c20b1 : decide (a1.size ≤ 128) = true := decide_eq_true (by omega)
                clear c20
                simp only [Option.some.injEq, Prod.mk.injEq] at H
                obtain ⟨rfl, rfl⟩ := H
                go_wp2
                go_ret2
                exact ⟨by first | rfl | (simp [errW_none, errW_some] <;> rfl) | (simp [*, errW_none, errW_some] <;> rfl), by repeat (first | (with_reducible first | exact HB.out | apply below_alloc | apply pw_below_drewN | apply below_drew1) | exact HB.out)⟩
              · rw [if_neg c20] at H
                have c20b0 : decide ((a1.size : Int) ≤ 128) = false := decide_eq_false c20
                have c20b1 : decide (a1.size ≤ 128) = false := decide_eq_false (by omega)
                clear c20
                simp only [Option.some.injEq, Prod.mk.injEq] at H
                obtain ⟨rfl, rfl⟩ := H
                go_wp2
                go_ret2
                exact ⟨by first | rfl | (simp [errW_none, errW_some] <;> rfl) | (simp [*, errW_none, errW_some] <;> rfl), by repeat (first | (with_reducible first | exact HB.out | apply below_alloc | apply pw_below_drewN | apply below_drew1) | exact HB.out)⟩

end Go.Proofs.YtefhngadeimklaaDoor.Q
end
section
namespace Go.Proofs.YtefhngadeimklaaDoor.Q
open Go.RowKit Go.Proofs.YtefhngadeimklaaDoorW.PrintWords Go.Proofs.YtefhngadeimklaaDoorW.PrintLast Go.Proofs.YtefhngadeimklaaDoorW.PrintMore
set_option linter.unusedVariables false
set_option linter.unusedSimpArgs false

attribute [local go_sem] max2_int min2_int max_two min_two max_three min_three max_four min_four
/-! ### tinderref19_Right: function 25 -/
def tinderref19_Right.l0 : Nat → List (S40) → Int → Int → Option (Bool)
  | 0, _, _, _ => none
  | k + 1, x0, x3, x4 => if x4 < (x0.length : Int) then (if 0 ≤ x4 then ((tinderref19_find.f k ((rd_T40 x0 x4).f0)).bind fun t26002 => (if t26002 ≤ x3 then (some false) else ((tinderref19_Form.f k ((rd_T40 x0 x4).f0) ((rd_T40 x0 x4).f1)).bind fun bt26005 => ((tinderref19_Default.f k ((rd_T40 x0 x4).f0)).bind fun bt26008 => (if bt26005.2 = 0 then (if bt26005.1.toList = ((rd_T40 x0 x4).f1).toList then (if bt26005.1.toList = bt26008.1.toList then (some false) else (tinderref19_Right.l0 k x0 t26002 (wrap64 (x4 + 1)))) else (some false)) else (some false)))))) else (none)) else (some true)
def tinderref19_Right.f (k : Nat) (l0 : List (S40)) : Option (Bool) := tinderref19_Right.l0 k l0 (-1) 0
theorem tinderref19_Right.mono_l : ∀ k, (∀ y0 y1 y2, LeO (tinderref19_Right.l0 k y0 y1 y2) (tinderref19_Right.l0 (k + 1) y0 y1 y2))
  | 0 => fun _ _ _ r h => by simp [tinderref19_Right.l0] at h
  | k + 1 => by
    have ih0 := tinderref19_Right.mono_l k
    · intro y0 y1 y2
      unfold tinderref19_Right.l0
      repeat' first
      | (with_reducible exact ih0 _ _ _)
      | (with_reducible exact tinderref19_Default.mono _ _)
      | (with_reducible exact tinderref19_Form.mono _ _ _)
      | (with_reducible exact tinderref19_find.mono _ _)
      | (with_reducible exact LeO.refl _)
      | (with_reducible exact LeO.none _)
      | (with_reducible refine LeO.ite ?_ ?_)
      | (with_reducible refine LeO.bind ?_ (fun _ => ?_))
      | exact ih0 _ _ _
      | exact tinderref19_Default.mono _ _
      | exact tinderref19_Form.mono _ _ _
      | exact tinderref19_find.mono _ _
      | exact LeO.none _
      | refine LeO.ite ?_ ?_
      | refine LeO.bind ?_ (fun _ => ?_)
theorem tinderref19_Right.mono : ∀ a0 k, LeO (tinderref19_Right.f k a0) (tinderref19_Right.f (k + 1) a0) := by
  intro a0 k
  have ih0 := tinderref19_Right.mono_l k
  unfold tinderref19_Right.f
  repeat' first
      | (with_reducible exact ih0 _ _ _)
      | (with_reducible exact tinderref19_Default.mono _ _)
      | (with_reducible exact tinderref19_Form.mono _ _ _)
      | (with_reducible exact tinderref19_find.mono _ _)
      | (with_reducible exact LeO.refl _)
      | (with_reducible exact LeO.none _)
      | (with_reducible refine LeO.ite ?_ ?_)
      | (with_reducible refine LeO.bind ?_ (fun _ => ?_))
      | exact ih0 _ _ _
      | exact tinderref19_Default.mono _ _
      | exact tinderref19_Form.mono _ _ _
      | exact tinderref19_find.mono _ _
      | exact LeO.none _
      | refine LeO.ite ?_ ?_
      | refine LeO.bind ?_ (fun _ => ?_)
def tinderref19_Right.T9 : Bool × List (List Nat × List Nat) := (true, [([], []), ([], []), ([0, 1], [0, 1]), ([2], [2]), ([3], [3]), ([], []), ([], []), ([5, 6], [5, 6]), ([7], [7]), ([8], [8]), ([4, 9], [4, 9]), ([10], [10]), ([11], [11]), ([11], [11]), ([12, 10, 0, 1, 2, 3, 4, 5, 6, 7, 8, 9, 10, 11, 12], [12]), ([13, 14, 0, 1, 2, 3, 4, 5, 6, 7, 8, 9, 10, 11, 12, 13, 14], [13])])
def tinderref19_Right.B9 : List Nat := [0, 0, 3, 7, 15, 0, 0, 96, 224, 480, 1023, 2047, 4095, 4095, 8191, 32767]
theorem tinderref19_Right.tab9 : rtab .any (opsOf Tryd.f25 9) = tinderref19_Right.T9 := by kernel_rfl
theorem tinderref19_Right.bits9 : waitsOk tinderref19_Right.T9.2 tinderref19_Right.B9 = true := by kernel_rfl
set_option maxHeartbeats 8000000 in
set_option maxRecDepth 100000 in
theorem tinderref19_Right.calls (k : Nat) (A0 : Option Addr) (c0 : Nat) (l0 : List (S40)) (r : Bool) (w : World) (hr0 : Kd.C k40 w A0 l0.length l0) (hc0 : l0.length ≤ c0) (h : tinderref19_Right.f k l0 = some r) :
    Calls Tryd.prog 25 #[.slice A0 l0.length c0] w fun e w' => e = .returned (.bool r) ∧ Below w.heap.size w w' := by
  have HR0 := Aside0.mk hr0
  have HC0 := Aside0.mk hc0
  clear hr0 hc0
  have HB := Aside0.mk (Below.refl w.heap.size w)
  have H : (tinderref19_Right.l0 k l0 (-1) 0) = some r := h
  clear h
  have H' := Aside0.mk H
  clear H
  go_enter Tryd.func25, Tryd.ntmps25
  go_wp2
  go_loopg [3, 4] k (fun kq v3 v4 w' => ∃ (x3_1 : Int) (x4_1 : Int), v3 = .int .i64 x3_1 ∧ v4 = .int .i64 x4_1 ∧ Aside0 (tinderref19_Right.l0 kq l0 x3_1 x4_1 = some r) ∧ Aside0 (kq ≤ k) ∧ Aside0 (Below w.heap.size w w'))
  case atStart => exact ⟨((-1)), (0), (by first | rfl | (simp; done) | (simp [*]; done)), (by first | rfl | (simp; done) | (simp [*]; done)), H', ⟨Nat.le_refl _⟩, ⟨by repeat (first | (with_reducible first | exact HB.out | apply below_alloc | apply pw_below_drewN | apply below_drew1) | exact HB.out)⟩⟩
  case round =>
    clear H'
    obtain ⟨x3_1, x4_1, rfl, rfl, HA, HK1, HB⟩ := hrel
    cases gk with
    | zero => exact absurd HA.out (by simp [tinderref19_Right.l0])
    | succ k1 =>
      have H := HA.out
      clear HA
      simp only [tinderref19_Right.l0] at H
      by_cases c2 : x4_1 < (l0.length : Int)
      · rw [if_pos c2] at H
        have c2b0 : decide (x4_1 < (l0.length : Int)) = true := decide_eq_true c2
        clear c2
        by_cases c3 : 0 ≤ x4_1
        · rw [if_pos c3] at H
          have c3b0 : decide (0 ≤ x4_1) = true := decide_eq_true c3
          clear c3
          replace H := Option.bind_eq_some_iff.mp H
          obtain ⟨t26002, A40, H⟩ := H
          replace H : (if t26002 ≤ x3_1 then (some false) else ((tinderref19_Form.f k1 ((rd_T40 l0 x4_1).f0) ((rd_T40 l0 x4_1).f1)).bind fun bt26005 => ((tinderref19_Default.f k1 ((rd_T40 l0 x4_1).f0)).bind fun bt26008 => (if bt26005.2 = 0 then (if bt26005.1.toList = ((rd_T40 l0 x4_1).f1).toList then (if bt26005.1.toList = bt26008.1.toList then (some false) else (tinderref19_Right.l0 k1 l0 t26002 (wrap64 (x4_1 + 1)))) else (some false)) else (some false))))) = some r := H
          have A4 := Aside0.mk A40
          clear A40
          by_cases c5 : t26002 ≤ x3_1
          · rw [if_pos c5] at H
            have c5b0 : decide (t26002 ≤ x3_1) = true := decide_eq_true c5
            clear c5
            obtain rfl := Option.some.inj H
            have p26001 : 0 ≤ (x4_1 : Int) := of_decide_eq_true (by first | (with_reducible assumption) | assumption)
            have q26001 : x4_1 < (l0.length : Int) := of_decide_eq_true (by first | (with_reducible assumption) | assumption)
            obtain ⟨ad26001, e26001, hx26001_0, hx26001_1⟩ := at_T40 HR0.out x4_1 p26001 q26001
            cases e26001
            replace hx26001_0 := (HB.out.cell (World.block_lt_of_cell? w _ hx26001_0)).trans hx26001_0
            replace hx26001_1 := (HB.out.cell (World.block_lt_of_cell? w _ hx26001_1)).trans hx26001_1
            replace p26001 := eq_true p26001
            replace q26001 := eq_true q26001
            go_wp2_with (first | ((with_reducible refine gate_callee (f := 46) rfl ?_); refine goesL_ (some 21) rfl rfl Tryd.func46 (by kernel_rfl) rfl #[.string ((rd_T40 l0 x4_1).f0)] rfl (by (try simp only [List.map_toArray, List.map_cons, List.map_nil]); first | done | rfl | (simp only [List.length_drop, List.length_take]; rfl)) ?_; (with_reducible refine (tinderref19_find.calls k1 ((rd_T40 l0 x4_1).f0) t26002 _ A4.out).mono ?_); rintro e w' ⟨rfl, ⟨nd, rfl⟩⟩; refine ⟨_, rfl, ?_⟩))
            go_ret
            exact ⟨by first | rfl | (simp [errW_none, errW_some] <;> rfl) | (simp [*, errW_none, errW_some] <;> rfl), by repeat (first | (with_reducible first | exact HB.out | apply below_alloc | apply pw_below_drewN | apply below_drew1) | exact HB.out)⟩
          · rw [if_neg c5] at H
            have c5b0 : decide (t26002 ≤ x3_1) = false := decide_eq_false c5
            clear c5
            replace H := Option.bind_eq_some_iff.mp H
            obtain ⟨⟨t26005, t26006⟩, A60, H⟩ := H
            replace H : ((tinderref19_Default.f k1 ((rd_T40 l0 x4_1).f0)).bind fun bt26008 => (if t26006 = 0 then (if t26005.toList = ((rd_T40 l0 x4_1).f1).toList then (if t26005.toList = bt26008.1.toList then (some false) else (tinderref19_Right.l0 k1 l0 t26002 (wrap64 (x4_1 + 1)))) else (some false)) else (some false))) = some r := H
            have A6 := Aside0.mk A60
            clear A60
            replace H := Option.bind_eq_some_iff.mp H
            obtain ⟨⟨t26008, t26009⟩, A70, H⟩ := H
            replace H : (if t26006 = 0 then (if t26005.toList = ((rd_T40 l0 x4_1).f1).toList then (if t26005.toList = t26008.toList then (some false) else (tinderref19_Right.l0 k1 l0 t26002 (wrap64 (x4_1 + 1)))) else (some false)) else (some false)) = some r := H
            have A7 := Aside0.mk A70
            clear A70
            by_cases c8 : t26006 = 0
            · rw [if_pos c8] at H
              have c8b0 : (t26006 == 0) = true := beq_iff_eq.mpr c8
              have c8b1 : (t26006 != 0) = false := bne_eq_false_iff_eq.mpr c8
              clear c8
              by_cases c9 : t26005.toList = ((rd_T40 l0 x4_1).f1).toList
              · rw [if_pos c9] at H
                have c9b0 : (t26005.toList == ((rd_T40 l0 x4_1).f1).toList) = true := beq_iff_eq.mpr c9
                have c9b1 : (t26005.toList != ((rd_T40 l0 x4_1).f1).toList) = false := bne_eq_false_iff_eq.mpr c9
                clear c9
                by_cases c10 : t26005.toList = t26008.toList
                · rw [if_pos c10] at H
                  have c10b0 : (t26005.toList == t26008.toList) = true := beq_iff_eq.mpr c10
                  have c10b1 : (t26005.toList != t26008.toList) = false := bne_eq_false_iff_eq.mpr c10
                  clear c10
                  obtain rfl := Option.some.inj H
                  have p26001 : 0 ≤ (x4_1 : Int) := of_decide_eq_true (by first | (with_reducible assumption) | assumption)
                  have q26001 : x4_1 < (l0.length : Int) := of_decide_eq_true (by first | (with_reducible assumption) | assumption)
                  obtain ⟨ad26001, e26001, hx26001_0, hx26001_1⟩ := at_T40 HR0.out x4_1 p26001 q26001
                  cases e26001
                  replace hx26001_0 := (HB.out.cell (World.block_lt_of_cell? w _ hx26001_0)).trans hx26001_0
                  replace hx26001_1 := (HB.out.cell (World.block_lt_of_cell? w _ hx26001_1)).trans hx26001_1
                  replace p26001 := eq_true p26001
                  replace q26001 := eq_true q26001
                  try go_wp2_with (first | ((with_reducible refine gate_callee (f := 46) rfl ?_); refine goesL_ (some 21) rfl rfl Tryd.func46 (by kernel_rfl) rfl #[.string ((rd_T40 l0 x4_1).f0)] rfl (by (try simp only [List.map_toArray, List.map_cons, List.map_nil]); first | done | rfl | (simp only [List.length_drop, List.length_take]; rfl)) ?_; (with_reducible refine (tinderref19_find.calls k1 ((rd_T40 l0 x4_1).f0) t26002 _ A4.out).mono ?_); rintro e w' ⟨rfl, ⟨nd, rfl⟩⟩; refine ⟨_, rfl, ?_⟩))
                  (try (rw [drewN_self wr]; generalize hq_ : World.drewN wr _ = wr; have n0_ : Aside0 (Below w.heap.size w wr) := ⟨by rw [← hq_]; exact (by repeat (first | (with_reducible first | exact HB.out | apply below_alloc | apply pw_below_drewN | apply below_drew1) | exact HB.out))⟩; clear HB hq_; have HB := n0_; clear n0_))
                  have n0_ := Aside0.mk (below_drew1 HB.out)
                  clear HB
                  have HB := n0_
                  clear n0_
                  have p26003 : 0 ≤ (x4_1 : Int) := of_decide_eq_true (by first | (with_reducible assumption) | assumption)
                  have q26003 : x4_1 < (l0.length : Int) := of_decide_eq_true (by first | (with_reducible assumption) | assumption)
                  obtain ⟨ad26003, e26003, hx26003_0, hx26003_1⟩ := at_T40 HR0.out x4_1 p26003 q26003
                  have hw26003_1 := hx26003_1
                  have hw26003_0 := hx26003_0
                  obtain rfl : ad26001 = ad26003 := (by injection e26003)
                  replace hx26003_0 := (HB.out.cell (World.block_lt_of_cell? w _ hx26003_0)).trans hx26003_0
                  replace hx26003_1 := (HB.out.cell (World.block_lt_of_cell? w _ hx26003_1)).trans hx26003_1
                  replace p26003 := eq_true p26003
                  replace q26003 := eq_true q26003
                  have p26004 : 0 ≤ (x4_1 : Int) := of_decide_eq_true (by first | (with_reducible assumption) | assumption)
                  have q26004 : x4_1 < (l0.length : Int) := of_decide_eq_true (by first | (with_reducible assumption) | assumption)
                  obtain ⟨ad26004, e26004, hx26004_0, hx26004_1⟩ := at_T40 HR0.out x4_1 p26004 q26004
                  have hw26004_1 := hx26004_1
                  have hw26004_0 := hx26004_0
                  obtain rfl : ad26001 = ad26004 := (by injection e26004)
                  replace hx26004_0 := (HB.out.cell (World.block_lt_of_cell? w _ hx26004_0)).trans hx26004_0
                  replace hx26004_1 := (HB.out.cell (World.block_lt_of_cell? w _ hx26004_1)).trans hx26004_1
                  replace p26004 := eq_true p26004
                  replace q26004 := eq_true q26004
                  refine start_ (n := 16) (S := fun w' => w'.cell? (ad26001.add ((x4_1).toNat * 2)) = some (.string ((rd_T40 l0 x4_1).f0)) ∧ w'.cell? ⟨(ad26001.add ((x4_1).toNat * 2)).block, (ad26001.add ((x4_1).toNat * 2)).off + 1, none⟩ = some (.string ((rd_T40 l0 x4_1).f1)) ∧ w'.cell? (ad26001.add ((x4_1).toNat * 2)) = some (.string ((rd_T40 l0 x4_1).f0)) ∧ w'.cell? ⟨(ad26001.add ((x4_1).toNat * 2)).block, (ad26001.add ((x4_1).toNat * 2)).off + 1, none⟩ = some (.string ((rd_T40 l0 x4_1).f1))) (ds := []) #[false, false, false, false, false, false, false, false, false, false, false, false, false, false, false, false] (by kernel_rfl) rfl rfl ⟨((HB.out.cell (World.block_lt_of_cell? w _ hw26003_0)).trans hw26003_0), ((HB.out.cell (World.block_lt_of_cell? w _ hw26003_1)).trans hw26003_1), ((HB.out.cell (World.block_lt_of_cell? w _ hw26004_0)).trans hw26004_0), ((HB.out.cell (World.block_lt_of_cell? w _ hw26004_1)).trans hw26004_1)⟩ (fun hHeld => ?_); refine with_tabW tinderref19_Right.tab9 tinderref19_Right.bits9 (fun HT_ HW_ => ?_)
                  generalize wr.drew = w11 at HB hx26003_0 hx26003_1 hx26004_0 hx26004_1 hHeld ⊢
                  refine pure_ (i := 0) (N := some 27) (v := ?_) (a' := ?_) #[true, false, false, false, false, false, false, false, false, false, false, false, false, false, false, false] rfl rfl (any_of HT_.out (by kernel_rfl)) (fun _ _ _ h => h) (Or.inl ⟨by rfl, ?_⟩) ?_ ?_
                  rotate_left
                  · intro w'
                    go_simp
                    with_reducible rfl
                  rotate_left
                  · simp only [Act.put, List.setIfInBounds_toArray, List.set_cons_zero, List.set_cons_succ, i64_w, i32_w]
                    rfl
                  refine pure_ (i := 1) (N := some 28) (v := ?_) (a' := ?_) #[true, true, false, false, false, false, false, false, false, false, false, false, false, false, false, false] rfl rfl (any_of HT_.out (by kernel_rfl)) (fun _ _ _ h => h) (Or.inl ⟨by rfl, ?_⟩) ?_ ?_
                  rotate_left
                  · intro w'
                    go_simp
                    with_reducible rfl
                  rotate_left
                  · simp only [Act.put, List.setIfInBounds_toArray, List.set_cons_zero, List.set_cons_succ, i64_w, i32_w]
                    rfl
                  refine pure_ (i := 2) (N := some 29) (v := ?_) (a' := ?_) #[true, true, true, false, false, false, false, false, false, false, false, false, false, false, false, false] rfl rfl (any_of HT_.out (by kernel_rfl)) (fun _ _ _ h => h) (Or.inl ⟨by rfl, ?_⟩) ?_ ?_
                  rotate_left
                  · intro w'
                    go_simp
                    with_reducible rfl
                  rotate_left
                  · simp only [Act.put, List.setIfInBounds_toArray, List.set_cons_zero, List.set_cons_succ, i64_w, i32_w]
                    rfl
                  refine pure_ (i := 3) (N := some 30) (v := ?_) (a' := ?_) #[true, true, true, true, false, false, false, false, false, false, false, false, false, false, false, false] rfl rfl (any_of HT_.out (by kernel_rfl)) (fun _ _ _ h => h) (Or.inl ⟨by rfl, ?_⟩) ?_ ?_
                  rotate_left
                  · intro w'
                    go_simp
                    with_reducible rfl
                  rotate_left
                  · simp only [Act.put, List.setIfInBounds_toArray, List.set_cons_zero, List.set_cons_succ, i64_w, i32_w]
                    rfl
                  refine pure_ (i := 5) (N := some 32) (v := ?_) (a' := ?_) #[true, true, true, true, false, true, false, false, false, false, false, false, false, false, false, false] rfl rfl (any_of HT_.out (by kernel_rfl)) (fun _ _ _ h => h) (Or.inl ⟨by rfl, ?_⟩) ?_ ?_
                  rotate_left
                  · intro w'
                    go_simp
                    with_reducible rfl
                  rotate_left
                  · simp only [Act.put, List.setIfInBounds_toArray, List.set_cons_zero, List.set_cons_succ, i64_w, i32_w]
                    rfl
                  refine pure_ (i := 6) (N := some 33) (v := ?_) (a' := ?_) #[true, true, true, true, false, true, true, false, false, false, false, false, false, false, false, false] rfl rfl (any_of HT_.out (by kernel_rfl)) (fun _ _ _ h => h) (Or.inl ⟨by rfl, ?_⟩) ?_ ?_
                  rotate_left
                  · intro w'
                    go_simp
                    with_reducible rfl
                  rotate_left
                  · simp only [Act.put, List.setIfInBounds_toArray, List.set_cons_zero, List.set_cons_succ, i64_w, i32_w]
                    rfl
                  refine pure_ (i := 7) (N := some 34) (v := ?_) (a' := ?_) #[true, true, true, true, false, true, true, true, false, false, false, false, false, false, false, false] rfl rfl (any_of HT_.out (by kernel_rfl)) (fun _ _ _ h => h) (Or.inl ⟨by rfl, ?_⟩) ?_ ?_
                  rotate_left
                  · intro w'
                    go_simp
                    with_reducible rfl
                  rotate_left
                  · simp only [Act.put, List.setIfInBounds_toArray, List.set_cons_zero, List.set_cons_succ, i64_w, i32_w]
                    rfl
                  refine pure_ (i := 8) (N := some 35) (v := ?_) (a' := ?_) #[true, true, true, true, false, true, true, true, true, false, false, false, false, false, false, false] rfl rfl (any_of HT_.out (by kernel_rfl)) (fun _ _ _ h => h) (Or.inl ⟨by rfl, ?_⟩) ?_ ?_
                  rotate_left
                  · intro w'
                    go_simp
                    with_reducible rfl
                  rotate_left
                  · simp only [Act.put, List.setIfInBounds_toArray, List.set_cons_zero, List.set_cons_succ, i64_w, i32_w]
                    rfl
                  refine take_ (i := 4) (N := some 31) (v := ?_) (a' := ?_) #[true, true, true, true, true, true, true, true, true, false, false, false, false, false, false, false] rfl rfl (take_ofW HT_.out HW_.out (by kernel_rfl)) (fun _ _ _ h => h) (Or.inl ⟨by rfl, ?_⟩) hHeld ?_ ?_
                  rotate_left
                  · rintro w' ⟨s0, s1, s2, s3⟩
                    go_simp
                    with_reducible rfl
                  rotate_left
                  · simp only [Act.put, List.setIfInBounds_toArray, List.set_cons_zero, List.set_cons_succ, i64_w, i32_w]
                    rfl
                  refine take_ (i := 9) (N := some 36) (v := ?_) (a' := ?_) #[true, true, true, true, true, true, true, true, true, true, false, false, false, false, false, false] rfl rfl (take_ofW HT_.out HW_.out (by kernel_rfl)) (fun _ _ _ h => h) (Or.inl ⟨by rfl, ?_⟩) hHeld ?_ ?_
                  rotate_left
                  · rintro w' ⟨s0, s1, s2, s3⟩
                    go_simp
                    with_reducible rfl
                  rotate_left
                  · simp only [Act.put, List.setIfInBounds_toArray, List.set_cons_zero, List.set_cons_succ, i64_w, i32_w]
                    rfl
                  refine one_ (i := 10) (N := some 37) #[true, true, true, true, true, true, true, true, true, true, true, false, false, false, false, false] rfl rfl (one_of HT_.out (by kernel_rfl)) (by decide) (fun K hK => ?_)
                  refine goes_ Tryd.func18 (by kernel_rfl) rfl #[.string ((rd_T40 l0 x4_1).f0), .string ((rd_T40 l0 x4_1).f1)] (by rfl) rfl rfl (by (try simp only [List.map_toArray, List.map_cons, List.map_nil]); first | done | rfl | (simp only [List.length_drop, List.length_take]; rfl)) ?_
                  with_reducible refine (tinderref19_Form.calls k1 ((rd_T40 l0 x4_1).f0) ((rd_T40 l0 x4_1).f1) t26005 t26006 _ A6.out).mono ?_
                  rintro e w12 ⟨rfl, hb⟩
                  refine ⟨_, rfl, ?_⟩
                  have n0_ := Aside0.mk (below_step (by repeat (first | (with_reducible first | exact HB.out | apply below_alloc | apply pw_below_drewN | apply below_drew1) | exact HB.out)) hb)
                  clear HB
                  have HB := n0_
                  clear n0_
                  (try clear hb)
                  (try clear hb2)
                  (try clear hk)
                  (try clear hi)
                  refine hK.out _ _ ⟨((HB.out.cell (World.block_lt_of_cell? w _ hw26003_0)).trans hw26003_0), ((HB.out.cell (World.block_lt_of_cell? w _ hw26003_1)).trans hw26003_1), ((HB.out.cell (World.block_lt_of_cell? w _ hw26004_0)).trans hw26004_0), ((HB.out.cell (World.block_lt_of_cell? w _ hw26004_1)).trans hw26004_1)⟩ (fun hHeld => ?_)
                  clear hK K
                  refine norm_ (a' := ?_) ?_ ?_
                  rotate_left
                  · show Act.put _ (some 37) _ = _
                    simp only [Act.put, List.setIfInBounds_toArray, List.set_cons_zero, List.set_cons_succ, i64_w, i32_w]
                    rfl
                  refine pure_ (i := 11) (N := some 26) (v := ?_) (a' := ?_) #[true, true, true, true, true, true, true, true, true, true, true, true, false, false, false, false] rfl rfl (any_of HT_.out (by kernel_rfl)) (fun _ _ _ h => h) (Or.inl ⟨by rfl, ?_⟩) ?_ ?_
                  rotate_left
                  · intro w'
                    go_simp
                    with_reducible rfl
                  rotate_left
                  · simp only [Act.put, List.setIfInBounds_toArray, List.set_cons_zero, List.set_cons_succ, i64_w, i32_w]
                    rfl
                  refine pure_ (i := 12) (N := some 38) (v := ?_) (a' := ?_) #[true, true, true, true, true, true, true, true, true, true, true, true, true, false, false, false] rfl rfl (any_of HT_.out (by kernel_rfl)) (fun _ _ _ h => h) (Or.inl ⟨by rfl, ?_⟩) ?_ ?_
                  rotate_left
                  · intro w'
                    go_simp
                    with_reducible rfl
                  rotate_left
                  · simp only [Act.put, List.setIfInBounds_toArray, List.set_cons_zero, List.set_cons_succ, i64_w, i32_w]
                    rfl
                  refine pure_ (i := 13) (N := some 39) (v := ?_) (a' := ?_) #[true, true, true, true, true, true, true, true, true, true, true, true, true, true, false, false] rfl rfl (any_of HT_.out (by kernel_rfl)) (fun _ _ _ h => h) (Or.inl ⟨by rfl, ?_⟩) ?_ ?_
                  rotate_left
                  · intro w'
                    go_simp
                    with_reducible rfl
                  rotate_left
                  · simp only [Act.put, List.setIfInBounds_toArray, List.set_cons_zero, List.set_cons_succ, i64_w, i32_w]
                    rfl
                  refine pure_ (i := 14) (N := some 6) (v := ?_) (a' := ?_) #[true, true, true, true, true, true, true, true, true, true, true, true, true, true, true, false] rfl rfl (any_of HT_.out (by kernel_rfl)) (fun _ _ _ h => h) (Or.inl ⟨by rfl, ?_⟩) ?_ ?_
                  rotate_left
                  · intro w'
                    go_simp
                    with_reducible rfl
                  rotate_left
                  · simp only [Act.put, List.setIfInBounds_toArray, List.set_cons_zero, List.set_cons_succ, i64_w, i32_w]
                    rfl
                  refine pure_ (i := 15) (N := some 7) (v := ?_) (a' := ?_) #[true, true, true, true, true, true, true, true, true, true, true, true, true, true, true, true] rfl rfl (any_of HT_.out (by kernel_rfl)) (fun _ _ _ h => h) (Or.inl ⟨by rfl, ?_⟩) ?_ ?_
                  rotate_left
                  · intro w'
                    go_simp
                    with_reducible rfl
                  rotate_left
                  · simp only [Act.put, List.setIfInBounds_toArray, List.set_cons_zero, List.set_cons_succ, i64_w, i32_w]
                    rfl
                  refine done_ (done_of HT_.out (by kernel_rfl)) ?_
                  have p26007 : 0 ≤ (x4_1 : Int) := of_decide_eq_true (by first | (with_reducible assumption) | assumption)
                  have q26007 : x4_1 < (l0.length : Int) := of_decide_eq_true (by first | (with_reducible assumption) | assumption)
                  obtain ⟨ad26007, e26007, hx26007_0, hx26007_1⟩ := at_T40 HR0.out x4_1 p26007 q26007
                  obtain rfl : ad26001 = ad26007 := (by injection e26007)
                  replace hx26007_0 := (HB.out.cell (World.block_lt_of_cell? w _ hx26007_0)).trans hx26007_0
                  replace hx26007_1 := (HB.out.cell (World.block_lt_of_cell? w _ hx26007_1)).trans hx26007_1
                  replace p26007 := eq_true p26007
                  replace q26007 := eq_true q26007
                  try go_wp2_with (first | ((with_reducible refine gate_callee (f := 20) rfl ?_); refine goesL_ (some 46) rfl rfl Tryd.func20 (by kernel_rfl) rfl #[.string ((rd_T40 l0 x4_1).f0)] rfl (by (try simp only [List.map_toArray, List.map_cons, List.map_nil]); first | done | rfl | (simp only [List.length_drop, List.length_take]; rfl)) ?_; (with_reducible refine (tinderref19_Default.calls k1 ((rd_T40 l0 x4_1).f0) t26008 t26009 _ A7.out).mono ?_); rintro e w' ⟨rfl, ⟨nd, rfl⟩⟩; refine ⟨_, rfl, ?_⟩; have p26010 : 0 ≤ (x4_1 : Int) := of_decide_eq_true (by first | (with_reducible assumption) | assumption); have q26010 : x4_1 < (l0.length : Int) := of_decide_eq_true (by first | (with_reducible assumption) | assumption); obtain ⟨ad26010, e26010, hx26010_0, hx26010_1⟩ := at_T40 HR0.out x4_1 p26010 q26010; obtain rfl : ad26001 = ad26010 := (by injection e26010); replace hx26010_0 := (HB.out.cell (World.block_lt_of_cell? w _ hx26010_0)).trans hx26010_0; replace hx26010_1 := (HB.out.cell (World.block_lt_of_cell? w _ hx26010_1)).trans hx26010_1; replace p26010 := eq_true p26010; replace q26010 := eq_true q26010))
                  go_ret
                  exact ⟨by first | rfl | (simp [errW_none, errW_some] <;> rfl) | (simp [*, errW_none, errW_some] <;> rfl), by repeat (first | (with_reducible first | exact HB.out | apply below_alloc | apply pw_below_drewN | apply below_drew1) | exact HB.out)⟩
                · rw [if_neg c10] at H
                  have c10b0 : (t26005.toList == t26008.toList) = false := beq_eq_false_iff_ne.mpr c10
                  have c10b1 : (t26005.toList != t26008.toList) = true := bne_iff_ne.mpr c10
                  have H' := Aside0.mk H
                  clear H
                  have p26001 : 0 ≤ (x4_1 : Int) := of_decide_eq_true (by first | (with_reducible assumption) | assumption)
                  have q26001 : x4_1 < (l0.length : Int) := of_decide_eq_true (by first | (with_reducible assumption) | assumption)
                  obtain ⟨ad26001, e26001, hx26001_0, hx26001_1⟩ := at_T40 HR0.out x4_1 p26001 q26001
                  cases e26001
                  replace hx26001_0 := (HB.out.cell (World.block_lt_of_cell? w _ hx26001_0)).trans hx26001_0
                  replace hx26001_1 := (HB.out.cell (World.block_lt_of_cell? w _ hx26001_1)).trans hx26001_1
                  replace p26001 := eq_true p26001
                  replace q26001 := eq_true q26001
                  try go_wp2_with (first | ((with_reducible refine gate_callee (f := 46) rfl ?_); refine goesL_ (some 21) rfl rfl Tryd.func46 (by kernel_rfl) rfl #[.string ((rd_T40 l0 x4_1).f0)] rfl (by (try simp only [List.map_toArray, List.map_cons, List.map_nil]); first | done | rfl | (simp only [List.length_drop, List.length_take]; rfl)) ?_; (with_reducible refine (tinderref19_find.calls k1 ((rd_T40 l0 x4_1).f0) t26002 _ A4.out).mono ?_); rintro e w' ⟨rfl, ⟨nd, rfl⟩⟩; refine ⟨_, rfl, ?_⟩))
                  (try (rw [drewN_self wr]; generalize hq_ : World.drewN wr _ = wr; have n0_ : Aside0 (Below w.heap.size w wr) := ⟨by rw [← hq_]; exact (by repeat (first | (with_reducible first | exact HB.out | apply below_alloc | apply pw_below_drewN | apply below_drew1) | exact HB.out))⟩; clear HB hq_; have HB := n0_; clear n0_))
                  have n0_ := Aside0.mk (below_drew1 HB.out)
                  clear HB
                  have HB := n0_
                  clear n0_
                  have p26003 : 0 ≤ (x4_1 : Int) := of_decide_eq_true (by first | (with_reducible assumption) | assumption)
                  have q26003 : x4_1 < (l0.length : Int) := of_decide_eq_true (by first | (with_reducible assumption) | assumption)
                  obtain ⟨ad26003, e26003, hx26003_0, hx26003_1⟩ := at_T40 HR0.out x4_1 p26003 q26003
                  have hw26003_1 := hx26003_1
                  have hw26003_0 := hx26003_0
                  obtain rfl : ad26001 = ad26003 := (by injection e26003)
                  replace hx26003_0 := (HB.out.cell (World.block_lt_of_cell? w _ hx26003_0)).trans hx26003_0
                  replace hx26003_1 := (HB.out.cell (World.block_lt_of_cell? w _ hx26003_1)).trans hx26003_1
                  replace p26003 := eq_true p26003
                  replace q26003 := eq_true q26003
                  have p26004 : 0 ≤ (x4_1 : Int) := of_decide_eq_true (by first | (with_reducible assumption) | assumption)
                  have q26004 : x4_1 < (l0.length : Int) := of_decide_eq_true (by first | (with_reducible assumption) | assumption)
                  obtain ⟨ad26004, e26004, hx26004_0, hx26004_1⟩ := at_T40 HR0.out x4_1 p26004 q26004
                  have hw26004_1 := hx26004_1
                  have hw26004_0 := hx26004_0
                  obtain rfl : ad26001 = ad26004 := (by injection e26004)
                  replace hx26004_0 := (HB.out.cell (World.block_lt_of_cell? w _ hx26004_0)).trans hx26004_0
                  replace hx26004_1 := (HB.out.cell (World.block_lt_of_cell? w _ hx26004_1)).trans hx26004_1
                  replace p26004 := eq_true p26004
                  replace q26004 := eq_true q26004
                  refine start_ (n := 16) (S := fun w' => w'.cell? (ad26001.add ((x4_1).toNat * 2)) = some (.string ((rd_T40 l0 x4_1).f0)) ∧ w'.cell? ⟨(ad26001.add ((x4_1).toNat * 2)).block, (ad26001.add ((x4_1).toNat * 2)).off + 1, none⟩ = some (.string ((rd_T40 l0 x4_1).f1)) ∧ w'.cell? (ad26001.add ((x4_1).toNat * 2)) = some (.string ((rd_T40 l0 x4_1).f0)) ∧ w'.cell? ⟨(ad26001.add ((x4_1).toNat * 2)).block, (ad26001.add ((x4_1).toNat * 2)).off + 1, none⟩ = some (.string ((rd_T40 l0 x4_1).f1))) (ds := []) #[false, false, false, false, false, false, false, false, false, false, false, false, false, false, false, false] (by kernel_rfl) rfl rfl ⟨((HB.out.cell (World.block_lt_of_cell? w _ hw26003_0)).trans hw26003_0), ((HB.out.cell (World.block_lt_of_cell? w _ hw26003_1)).trans hw26003_1), ((HB.out.cell (World.block_lt_of_cell? w _ hw26004_0)).trans hw26004_0), ((HB.out.cell (World.block_lt_of_cell? w _ hw26004_1)).trans hw26004_1)⟩ (fun hHeld => ?_); refine with_tabW tinderref19_Right.tab9 tinderref19_Right.bits9 (fun HT_ HW_ => ?_)
                  generalize wr.drew = w13 at HB hx26003_0 hx26003_1 hx26004_0 hx26004_1 hHeld ⊢
                  refine pure_ (i := 0) (N := some 27) (v := ?_) (a' := ?_) #[true, false, false, false, false, false, false, false, false, false, false, false, false, false, false, false] rfl rfl (any_of HT_.out (by kernel_rfl)) (fun _ _ _ h => h) (Or.inl ⟨by rfl, ?_⟩) ?_ ?_
                  rotate_left
                  · intro w'
                    go_simp
                    with_reducible rfl
                  rotate_left
                  · simp only [Act.put, List.setIfInBounds_toArray, List.set_cons_zero, List.set_cons_succ, i64_w, i32_w]
                    rfl
                  refine pure_ (i := 1) (N := some 28) (v := ?_) (a' := ?_) #[true, true, false, false, false, false, false, false, false, false, false, false, false, false, false, false] rfl rfl (any_of HT_.out (by kernel_rfl)) (fun _ _ _ h => h) (Or.inl ⟨by rfl, ?_⟩) ?_ ?_
                  rotate_left
                  · intro w'
                    go_simp
                    with_reducible rfl
                  rotate_left
                  · simp only [Act.put, List.setIfInBounds_toArray, List.set_cons_zero, List.set_cons_succ, i64_w, i32_w]
                    rfl
                  refine pure_ (i := 2) (N := some 29) (v := ?_) (a' := ?_) #[true, true, true, false, false, false, false, false, false, false, false, false, false, false, false, false] rfl rfl (any_of HT_.out (by kernel_rfl)) (fun _ _ _ h => h) (Or.inl ⟨by rfl, ?_⟩) ?_ ?_
                  rotate_left
                  · intro w'
                    go_simp
                    with_reducible rfl
                  rotate_left
                  · simp only [Act.put, List.setIfInBounds_toArray, List.set_cons_zero, List.set_cons_succ, i64_w, i32_w]
                    rfl
                  refine pure_ (i := 3) (N := some 30) (v := ?_) (a' := ?_) #[true, true, true, true, false, false, false, false, false, false, false, false, false, false, false, false] rfl rfl (any_of HT_.out (by kernel_rfl)) (fun _ _ _ h => h) (Or.inl ⟨by rfl, ?_⟩) ?_ ?_
                  rotate_left
                  · intro w'
                    go_simp
                    with_reducible rfl
                  rotate_left
                  · simp only [Act.put, List.setIfInBounds_toArray, List.set_cons_zero, List.set_cons_succ, i64_w, i32_w]
                    rfl
                  refine pure_ (i := 5) (N := some 32) (v := ?_) (a' := ?_) #[true, true, true, true, false, true, false, false, false, false, false, false, false, false, false, false] rfl rfl (any_of HT_.out (by kernel_rfl)) (fun _ _ _ h => h) (Or.inl ⟨by rfl, ?_⟩) ?_ ?_
                  rotate_left
                  · intro w'
                    go_simp
                    with_reducible rfl
                  rotate_left
                  · simp only [Act.put, List.setIfInBounds_toArray, List.set_cons_zero, List.set_cons_succ, i64_w, i32_w]
                    rfl
                  refine pure_ (i := 6) (N := some 33) (v := ?_) (a' := ?_) #[true, true, true, true, false, true, true, false, false, false, false, false, false, false, false, false] rfl rfl (any_of HT_.out (by kernel_rfl)) (fun _ _ _ h => h) (Or.inl ⟨by rfl, ?_⟩) ?_ ?_
                  rotate_left
                  · intro w'
                    go_simp
                    with_reducible rfl
                  rotate_left
                  · simp only [Act.put, List.setIfInBounds_toArray, List.set_cons_zero, List.set_cons_succ, i64_w, i32_w]
                    rfl
                  refine pure_ (i := 7) (N := some 34) (v := ?_) (a' := ?_) #[true, true, true, true, false, true, true, true, false, false, false, false, false, false, false, false] rfl rfl (any_of HT_.out (by kernel_rfl)) (fun _ _ _ h => h) (Or.inl ⟨by rfl, ?_⟩) ?_ ?_
                  rotate_left
                  · intro w'
                    go_simp
                    with_reducible rfl
                  rotate_left
                  · simp only [Act.put, List.setIfInBounds_toArray, List.set_cons_zero, List.set_cons_succ, i64_w, i32_w]
                    rfl
                  refine pure_ (i := 8) (N := some 35) (v := ?_) (a' := ?_) #[true, true, true, true, false, true, true, true, true, false, false, false, false, false, false, false] rfl rfl (any_of HT_.out (by kernel_rfl)) (fun _ _ _ h => h) (Or.inl ⟨by rfl, ?_⟩) ?_ ?_
                  rotate_left
                  · intro w'
                    go_simp
                    with_reducible rfl
                  rotate_left
                  · simp only [Act.put, List.setIfInBounds_toArray, List.set_cons_zero, List.set_cons_succ, i64_w, i32_w]
                    rfl
                  refine take_ (i := 4) (N := some 31) (v := ?_) (a' := ?_) #[true, true, true, true, true, true, true, true, true, false, false, false, false, false, false, false] rfl rfl (take_ofW HT_.out HW_.out (by kernel_rfl)) (fun _ _ _ h => h) (Or.inl ⟨by rfl, ?_⟩) hHeld ?_ ?_
                  rotate_left
                  · rintro w' ⟨s0, s1, s2, s3⟩
                    go_simp
                    with_reducible rfl
                  rotate_left
                  · simp only [Act.put, List.setIfInBounds_toArray, List.set_cons_zero, List.set_cons_succ, i64_w, i32_w]
                    rfl
                  refine take_ (i := 9) (N := some 36) (v := ?_) (a' := ?_) #[true, true, true, true, true, true, true, true, true, true, false, false, false, false, false, false] rfl rfl (take_ofW HT_.out HW_.out (by kernel_rfl)) (fun _ _ _ h => h) (Or.inl ⟨by rfl, ?_⟩) hHeld ?_ ?_
                  rotate_left
                  · rintro w' ⟨s0, s1, s2, s3⟩
                    go_simp
                    with_reducible rfl
                  rotate_left
                  · simp only [Act.put, List.setIfInBounds_toArray, List.set_cons_zero, List.set_cons_succ, i64_w, i32_w]
                    rfl
                  refine one_ (i := 10) (N := some 37) #[true, true, true, true, true, true, true, true, true, true, true, false, false, false, false, false] rfl rfl (one_of HT_.out (by kernel_rfl)) (by decide) (fun K hK => ?_)
                  refine goes_ Tryd.func18 (by kernel_rfl) rfl #[.string ((rd_T40 l0 x4_1).f0), .string ((rd_T40 l0 x4_1).f1)] (by rfl) rfl rfl (by (try simp only [List.map_toArray, List.map_cons, List.map_nil]); first | done | rfl | (simp only [List.length_drop, List.length_take]; rfl)) ?_
                  with_reducible refine (tinderref19_Form.calls k1 ((rd_T40 l0 x4_1).f0) ((rd_T40 l0 x4_1).f1) t26005 t26006 _ A6.out).mono ?_
                  rintro e w14 ⟨rfl, hb⟩
                  refine ⟨_, rfl, ?_⟩
                  have n0_ := Aside0.mk (below_step (by repeat (first | (with_reducible first | exact HB.out | apply below_alloc | apply pw_below_drewN | apply below_drew1) | exact HB.out)) hb)
                  clear HB
                  have HB := n0_
                  clear n0_
                  (try clear hb)
                  (try clear hb2)
                  (try clear hk)
                  (try clear hi)
                  refine hK.out _ _ ⟨((HB.out.cell (World.block_lt_of_cell? w _ hw26003_0)).trans hw26003_0), ((HB.out.cell (World.block_lt_of_cell? w _ hw26003_1)).trans hw26003_1), ((HB.out.cell (World.block_lt_of_cell? w _ hw26004_0)).trans hw26004_0), ((HB.out.cell (World.block_lt_of_cell? w _ hw26004_1)).trans hw26004_1)⟩ (fun hHeld => ?_)
                  clear hK K
                  refine norm_ (a' := ?_) ?_ ?_
                  rotate_left
                  · show Act.put _ (some 37) _ = _
                    simp only [Act.put, List.setIfInBounds_toArray, List.set_cons_zero, List.set_cons_succ, i64_w, i32_w]
                    rfl
                  refine pure_ (i := 11) (N := some 26) (v := ?_) (a' := ?_) #[true, true, true, true, true, true, true, true, true, true, true, true, false, false, false, false] rfl rfl (any_of HT_.out (by kernel_rfl)) (fun _ _ _ h => h) (Or.inl ⟨by rfl, ?_⟩) ?_ ?_
                  rotate_left
                  · intro w'
                    go_simp
                    with_reducible rfl
                  rotate_left
                  · simp only [Act.put, List.setIfInBounds_toArray, List.set_cons_zero, List.set_cons_succ, i64_w, i32_w]
                    rfl
                  refine pure_ (i := 12) (N := some 38) (v := ?_) (a' := ?_) #[true, true, true, true, true, true, true, true, true, true, true, true, true, false, false, false] rfl rfl (any_of HT_.out (by kernel_rfl)) (fun _ _ _ h => h) (Or.inl ⟨by rfl, ?_⟩) ?_ ?_
                  rotate_left
                  · intro w'
                    go_simp
                    with_reducible rfl
                  rotate_left
                  · simp only [Act.put, List.setIfInBounds_toArray, List.set_cons_zero, List.set_cons_succ, i64_w, i32_w]
                    rfl
                  refine pure_ (i := 13) (N := some 39) (v := ?_) (a' := ?_) #[true, true, true, true, true, true, true, true, true, true, true, true, true, true, false, false] rfl rfl (any_of HT_.out (by kernel_rfl)) (fun _ _ _ h => h) (Or.inl ⟨by rfl, ?_⟩) ?_ ?_
                  rotate_left
                  · intro w'
                    go_simp
                    with_reducible rfl
                  rotate_left
                  · simp only [Act.put, List.setIfInBounds_toArray, List.set_cons_zero, List.set_cons_succ, i64_w, i32_w]
                    rfl
                  refine pure_ (i := 14) (N := some 6) (v := ?_) (a' := ?_) #[true, true, true, true, true, true, true, true, true, true, true, true, true, true, true, false] rfl rfl (any_of HT_.out (by kernel_rfl)) (fun _ _ _ h => h) (Or.inl ⟨by rfl, ?_⟩) ?_ ?_
                  rotate_left
                  · intro w'
                    go_simp
                    with_reducible rfl
                  rotate_left
                  · simp only [Act.put, List.setIfInBounds_toArray, List.set_cons_zero, List.set_cons_succ, i64_w, i32_w]
                    rfl
                  refine pure_ (i := 15) (N := some 7) (v := ?_) (a' := ?_) #[true, true, true, true, true, true, true, true, true, true, true, true, true, true, true, true] rfl rfl (any_of HT_.out (by kernel_rfl)) (fun _ _ _ h => h) (Or.inl ⟨by rfl, ?_⟩) ?_ ?_
                  rotate_left
                  · intro w'
                    go_simp
                    with_reducible rfl
                  rotate_left
                  · simp only [Act.put, List.setIfInBounds_toArray, List.set_cons_zero, List.set_cons_succ, i64_w, i32_w]
                    rfl
                  refine done_ (done_of HT_.out (by kernel_rfl)) ?_
                  have p26007 : 0 ≤ (x4_1 : Int) := of_decide_eq_true (by first | (with_reducible assumption) | assumption)
                  have q26007 : x4_1 < (l0.length : Int) := of_decide_eq_true (by first | (with_reducible assumption) | assumption)
                  obtain ⟨ad26007, e26007, hx26007_0, hx26007_1⟩ := at_T40 HR0.out x4_1 p26007 q26007
                  obtain rfl : ad26001 = ad26007 := (by injection e26007)
                  replace hx26007_0 := (HB.out.cell (World.block_lt_of_cell? w _ hx26007_0)).trans hx26007_0
                  replace hx26007_1 := (HB.out.cell (World.block_lt_of_cell? w _ hx26007_1)).trans hx26007_1
                  replace p26007 := eq_true p26007
                  replace q26007 := eq_true q26007
                  try go_wp2_with (first | ((with_reducible refine gate_callee (f := 20) rfl ?_); refine goesL_ (some 46) rfl rfl Tryd.func20 (by kernel_rfl) rfl #[.string ((rd_T40 l0 x4_1).f0)] rfl (by (try simp only [List.map_toArray, List.map_cons, List.map_nil]); first | done | rfl | (simp only [List.length_drop, List.length_take]; rfl)) ?_; (with_reducible refine (tinderref19_Default.calls k1 ((rd_T40 l0 x4_1).f0) t26008 t26009 _ A7.out).mono ?_); rintro e w' ⟨rfl, ⟨nd, rfl⟩⟩; refine ⟨_, rfl, ?_⟩; have p26010 : 0 ≤ (x4_1 : Int) := of_decide_eq_true (by first | (with_reducible assumption) | assumption); have q26010 : x4_1 < (l0.length : Int) := of_decide_eq_true (by first | (with_reducible assumption) | assumption); obtain ⟨ad26010, e26010, hx26010_0, hx26010_1⟩ := at_T40 HR0.out x4_1 p26010 q26010; obtain rfl : ad26001 = ad26010 := (by injection e26010); replace hx26010_0 := (HB.out.cell (World.block_lt_of_cell? w _ hx26010_0)).trans hx26010_0; replace hx26010_1 := (HB.out.cell (World.block_lt_of_cell? w _ hx26010_1)).trans hx26010_1; replace p26010 := eq_true p26010; replace q26010 := eq_true q26010))
                  go_roundg k1
                  case measure => have := HK1.out; omega
                  case rel => exact ⟨(t26002), (wrap64 (x4_1 + 1)), (by first | rfl | (simp; done) | (simp [*]; done)), (by first | rfl | (simp; done) | (simp [*]; done)), H', ⟨by have := HK1.out; omega⟩, ⟨by repeat (first | (with_reducible first | exact HB.out | apply below_alloc | apply pw_below_drewN | apply below_drew1) | exact HB.out)⟩⟩
              · rw [if_neg c9] at H
                have c9b0 : (t26005.toList == ((rd_T40 l0 x4_1).f1).toList) = false := beq_eq_false_iff_ne.mpr c9
                have c9b1 : (t26005.toList != ((rd_T40 l0 x4_1).f1).toList) = true := bne_iff_ne.mpr c9
                obtain rfl := Option.some.inj H
                have p26001 : 0 ≤ (x4_1 : Int) := of_decide_eq_true (by first | (with_reducible assumption) | assumption)
                have q26001 : x4_1 < (l0.length : Int) := of_decide_eq_true (by first | (with_reducible assumption) | assumption)
                obtain ⟨ad26001, e26001, hx26001_0, hx26001_1⟩ := at_T40 HR0.out x4_1 p26001 q26001
                cases e26001
                replace hx26001_0 := (HB.out.cell (World.block_lt_of_cell? w _ hx26001_0)).trans hx26001_0
                replace hx26001_1 := (HB.out.cell (World.block_lt_of_cell? w _ hx26001_1)).trans hx26001_1
                replace p26001 := eq_true p26001
                replace q26001 := eq_true q26001
                try go_wp2_with (first | ((with_reducible refine gate_callee (f := 46) rfl ?_); refine goesL_ (some 21) rfl rfl Tryd.func46 (by kernel_rfl) rfl #[.string ((rd_T40 l0 x4_1).f0)] rfl (by (try simp only [List.map_toArray, List.map_cons, List.map_nil]); first | done | rfl | (simp only [List.length_drop, List.length_take]; rfl)) ?_; (with_reducible refine (tinderref19_find.calls k1 ((rd_T40 l0 x4_1).f0) t26002 _ A4.out).mono ?_); rintro e w' ⟨rfl, ⟨nd, rfl⟩⟩; refine ⟨_, rfl, ?_⟩))
                (try (rw [drewN_self wr]; generalize hq_ : World.drewN wr _ = wr; have n0_ : Aside0 (Below w.heap.size w wr) := ⟨by rw [← hq_]; exact (by repeat (first | (with_reducible first | exact HB.out | apply below_alloc | apply pw_below_drewN | apply below_drew1) | exact HB.out))⟩; clear HB hq_; have HB := n0_; clear n0_))
                have n0_ := Aside0.mk (below_drew1 HB.out)
                clear HB
                have HB := n0_
                clear n0_
                have p26003 : 0 ≤ (x4_1 : Int) := of_decide_eq_true (by first | (with_reducible assumption) | assumption)
                have q26003 : x4_1 < (l0.length : Int) := of_decide_eq_true (by first | (with_reducible assumption) | assumption)
                obtain ⟨ad26003, e26003, hx26003_0, hx26003_1⟩ := at_T40 HR0.out x4_1 p26003 q26003
                have hw26003_1 := hx26003_1
                have hw26003_0 := hx26003_0
                obtain rfl : ad26001 = ad26003 := (by injection e26003)
                replace hx26003_0 := (HB.out.cell (World.block_lt_of_cell? w _ hx26003_0)).trans hx26003_0
                replace hx26003_1 := (HB.out.cell (World.block_lt_of_cell? w _ hx26003_1)).trans hx26003_1
                replace p26003 := eq_true p26003
                replace q26003 := eq_true q26003
                have p26004 : 0 ≤ (x4_1 : Int) := of_decide_eq_true (by first | (with_reducible assumption) | assumption)
                have q26004 : x4_1 < (l0.length : Int) := of_decide_eq_true (by first | (with_reducible assumption) | assumption)
                obtain ⟨ad26004, e26004, hx26004_0, hx26004_1⟩ := at_T40 HR0.out x4_1 p26004 q26004
                have hw26004_1 := hx26004_1
                have hw26004_0 := hx26004_0
                obtain rfl : ad26001 = ad26004 := (by injection e26004)
                replace hx26004_0 := (HB.out.cell (World.block_lt_of_cell? w _ hx26004_0)).trans hx26004_0
                replace hx26004_1 := (HB.out.cell (World.block_lt_of_cell? w _ hx26004_1)).trans hx26004_1
                replace p26004 := eq_true p26004
                replace q26004 := eq_true q26004
                refine start_ (n := 16) (S := fun w' => w'.cell? (ad26001.add ((x4_1).toNat * 2)) = some (.string ((rd_T40 l0 x4_1).f0)) ∧ w'.cell? ⟨(ad26001.add ((x4_1).toNat * 2)).block, (ad26001.add ((x4_1).toNat * 2)).off + 1, none⟩ = some (.string ((rd_T40 l0 x4_1).f1)) ∧ w'.cell? (ad26001.add ((x4_1).toNat * 2)) = some (.string ((rd_T40 l0 x4_1).f0)) ∧ w'.cell? ⟨(ad26001.add ((x4_1).toNat * 2)).block, (ad26001.add ((x4_1).toNat * 2)).off + 1, none⟩ = some (.string ((rd_T40 l0 x4_1).f1))) (ds := []) #[false, false, false, false, false, false, false, false, false, false, false, false, false, false, false, false] (by kernel_rfl) rfl rfl ⟨((HB.out.cell (World.block_lt_of_cell? w _ hw26003_0)).trans hw26003_0), ((HB.out.cell (World.block_lt_of_cell? w _ hw26003_1)).trans hw26003_1), ((HB.out.cell (World.block_lt_of_cell? w _ hw26004_0)).trans hw26004_0), ((HB.out.cell (World.block_lt_of_cell? w _ hw26004_1)).trans hw26004_1)⟩ (fun hHeld => ?_); refine with_tabW tinderref19_Right.tab9 tinderref19_Right.bits9 (fun HT_ HW_ => ?_)
                generalize wr.drew = w15 at HB hx26003_0 hx26003_1 hx26004_0 hx26004_1 hHeld ⊢
                refine pure_ (i := 0) (N := some 27) (v := ?_) (a' := ?_) #[true, false, false, false, false, false, false, false, false, false, false, false, false, false, false, false] rfl rfl (any_of HT_.out (by kernel_rfl)) (fun _ _ _ h => h) (Or.inl ⟨by rfl, ?_⟩) ?_ ?_
                rotate_left
                · intro w'
                  go_simp
                  with_reducible rfl
                rotate_left
                · simp only [Act.put, List.setIfInBounds_toArray, List.set_cons_zero, List.set_cons_succ, i64_w, i32_w]
                  rfl
                refine pure_ (i := 1) (N := some 28) (v := ?_) (a' := ?_) #[true, true, false, false, false, false, false, false, false, false, false, false, false, false, false, false] rfl rfl (any_of HT_.out (by kernel_rfl)) (fun _ _ _ h => h) (Or.inl ⟨by rfl, ?_⟩) ?_ ?_
                rotate_left
                · intro w'
                  go_simp
                  with_reducible rfl
                rotate_left
                · simp only [Act.put, List.setIfInBounds_toArray, List.set_cons_zero, List.set_cons_succ, i64_w, i32_w]
                  rfl
                refine pure_ (i := 2) (N := some 29) (v := ?_) (a' := ?_) #[true, true, true, false, false, false, false, false, false, false, false, false, false, false, false, false] rfl rfl (any_of HT_.out (by kernel_rfl)) (fun _ _ _ h => h) (Or.inl ⟨by rfl, ?_⟩) ?_ ?_
                rotate_left
                · intro w'
                  go_simp
                  with_reducible rfl
                rotate_left
                · simp only [Act.put, List.setIfInBounds_toArray, List.set_cons_zero, List.set_cons_succ, i64_w, i32_w]
                  rfl
                refine pure_ (i := 3) (N := some 30) (v := ?_) (a' := ?_) #[true, true, true, true, false, false, false, false, false, false, false, false, false, false, false, false] rfl rfl (any_of HT_.out (by kernel_rfl)) (fun _ _ _ h => h) (Or.inl ⟨by rfl, ?_⟩) ?_ ?_
                rotate_left
                · intro w'
                  go_simp
                  with_reducible rfl
                rotate_left
                · simp only [Act.put, List.setIfInBounds_toArray, List.set_cons_zero, List.set_cons_succ, i64_w, i32_w]
                  rfl
                refine pure_ (i := 5) (N := some 32) (v := ?_) (a' := ?_) #[true, true, true, true, false, true, false, false, false, false, false, false, false, false, false, false] rfl rfl (any_of HT_.out (by kernel_rfl)) (fun _ _ _ h => h) (Or.inl ⟨by rfl, ?_⟩) ?_ ?_
                rotate_left
                · intro w'
                  go_simp
                  with_reducible rfl
                rotate_left
                · simp only [Act.put, List.setIfInBounds_toArray, List.set_cons_zero, List.set_cons_succ, i64_w, i32_w]
                  rfl
                refine pure_ (i := 6) (N := some 33) (v := ?_) (a' := ?_) #[true, true, true, true, false, true, true, false, false, false, false, false, false, false, false, false] rfl rfl (any_of HT_.out (by kernel_rfl)) (fun _ _ _ h => h) (Or.inl ⟨by rfl, ?_⟩) ?_ ?_
                rotate_left
                · intro w'
                  go_simp
                  with_reducible rfl
                rotate_left
                · simp only [Act.put, List.setIfInBounds_toArray, List.set_cons_zero, List.set_cons_succ, i64_w, i32_w]
                  rfl
                refine pure_ (i := 7) (N := some 34) (v := ?_) (a' := ?_) #[true, true, true, true, false, true, true, true, false, false, false, false, false, false, false, false] rfl rfl (any_of HT_.out (by kernel_rfl)) (fun _ _ _ h => h) (Or.inl ⟨by rfl, ?_⟩) ?_ ?_
                rotate_left
                · intro w'
                  go_simp
                  with_reducible rfl
                rotate_left
                · simp only [Act.put, List.setIfInBounds_toArray, List.set_cons_zero, List.set_cons_succ, i64_w, i32_w]
                  rfl
                refine pure_ (i := 8) (N := some 35) (v := ?_) (a' := ?_) #[true, true, true, true, false, true, true, true, true, false, false, false, false, false, false, false] rfl rfl (any_of HT_.out (by kernel_rfl)) (fun _ _ _ h => h) (Or.inl ⟨by rfl, ?_⟩) ?_ ?_
                rotate_left
                · intro w'
                  go_simp
                  with_reducible rfl
                rotate_left
                · simp only [Act.put, List.setIfInBounds_toArray, List.set_cons_zero, List.set_cons_succ, i64_w, i32_w]
                  rfl
                refine take_ (i := 4) (N := some 31) (v := ?_) (a' := ?_) #[true, true, true, true, true, true, true, true, true, false, false, false, false, false, false, false] rfl rfl (take_ofW HT_.out HW_.out (by kernel_rfl)) (fun _ _ _ h => h) (Or.inl ⟨by rfl, ?_⟩) hHeld ?_ ?_
                rotate_left
                · rintro w' ⟨s0, s1, s2, s3⟩
                  go_simp
                  with_reducible rfl
                rotate_left
                · simp only [Act.put, List.setIfInBounds_toArray, List.set_cons_zero, List.set_cons_succ, i64_w, i32_w]
                  rfl
                refine take_ (i := 9) (N := some 36) (v := ?_) (a' := ?_) #[true, true, true, true, true, true, true, true, true, true, false, false, false, false, false, false] rfl rfl (take_ofW HT_.out HW_.out (by kernel_rfl)) (fun _ _ _ h => h) (Or.inl ⟨by rfl, ?_⟩) hHeld ?_ ?_
                rotate_left
                · rintro w' ⟨s0, s1, s2, s3⟩
                  go_simp
                  with_reducible rfl
                rotate_left
                · simp only [Act.put, List.setIfInBounds_toArray, List.set_cons_zero, List.set_cons_succ, i64_w, i32_w]
                  rfl
                refine one_ (i := 10) (N := some 37) #[true, true, true, true, true, true, true, true, true, true, true, false, false, false, false, false] rfl rfl (one_of HT_.out (by kernel_rfl)) (by decide) (fun K hK => ?_)
                refine goes_ Tryd.func18 (by kernel_rfl) rfl #[.string ((rd_T40 l0 x4_1).f0), .string ((rd_T40 l0 x4_1).f1)] (by rfl) rfl rfl (by (try simp only [List.map_toArray, List.map_cons, List.map_nil]); first | done | rfl | (simp only [List.length_drop, List.length_take]; rfl)) ?_
                with_reducible refine (tinderref19_Form.calls k1 ((rd_T40 l0 x4_1).f0) ((rd_T40 l0 x4_1).f1) t26005 t26006 _ A6.out).mono ?_
                rintro e w16 ⟨rfl, hb⟩
                refine ⟨_, rfl, ?_⟩
                have n0_ := Aside0.mk (below_step (by repeat (first | (with_reducible first | exact HB.out | apply below_alloc | apply pw_below_drewN | apply below_drew1) | exact HB.out)) hb)
                clear HB
                have HB := n0_
                clear n0_
                (try clear hb)
                (try clear hb2)
                (try clear hk)
                (try clear hi)
                refine hK.out _ _ ⟨((HB.out.cell (World.block_lt_of_cell? w _ hw26003_0)).trans hw26003_0), ((HB.out.cell (World.block_lt_of_cell? w _ hw26003_1)).trans hw26003_1), ((HB.out.cell (World.block_lt_of_cell? w _ hw26004_0)).trans hw26004_0), ((HB.out.cell (World.block_lt_of_cell? w _ hw26004_1)).trans hw26004_1)⟩ (fun hHeld => ?_)
                clear hK K
                refine norm_ (a' := ?_) ?_ ?_
                rotate_left
                · show Act.put _ (some 37) _ = _
                  simp only [Act.put, List.setIfInBounds_toArray, List.set_cons_zero, List.set_cons_succ, i64_w, i32_w]
                  rfl
                refine pure_ (i := 11) (N := some 26) (v := ?_) (a' := ?_) #[true, true, true, true, true, true, true, true, true, true, true, true, false, false, false, false] rfl rfl (any_of HT_.out (by kernel_rfl)) (fun _ _ _ h => h) (Or.inl ⟨by rfl, ?_⟩) ?_ ?_
                rotate_left
                · intro w'
                  go_simp
                  with_reducible rfl
                rotate_left
                · simp only [Act.put, List.setIfInBounds_toArray, List.set_cons_zero, List.set_cons_succ, i64_w, i32_w]
                  rfl
                refine pure_ (i := 12) (N := some 38) (v := ?_) (a' := ?_) #[true, true, true, true, true, true, true, true, true, true, true, true, true, false, false, false] rfl rfl (any_of HT_.out (by kernel_rfl)) (fun _ _ _ h => h) (Or.inl ⟨by rfl, ?_⟩) ?_ ?_
                rotate_left
                · intro w'
                  go_simp
                  with_reducible rfl
                rotate_left
                · simp only [Act.put, List.setIfInBounds_toArray, List.set_cons_zero, List.set_cons_succ, i64_w, i32_w]
                  rfl
                refine pure_ (i := 13) (N := some 39) (v := ?_) (a' := ?_) #[true, true, true, true, true, true, true, true, true, true, true, true, true, true, false, false] rfl rfl (any_of HT_.out (by kernel_rfl)) (fun _ _ _ h => h) (Or.inl ⟨by rfl, ?_⟩) ?_ ?_
                rotate_left
                · intro w'
                  go_simp
                  with_reducible rfl
                rotate_left
                · simp only [Act.put, List.setIfInBounds_toArray, List.set_cons_zero, List.set_cons_succ, i64_w, i32_w]
                  rfl
                refine pure_ (i := 14) (N := some 6) (v := ?_) (a' := ?_) #[true, true, true, true, true, true, true, true, true, true, true, true, true, true, true, false] rfl rfl (any_of HT_.out (by kernel_rfl)) (fun _ _ _ h => h) (Or.inl ⟨by rfl, ?_⟩) ?_ ?_
                rotate_left
                · intro w'
                  go_simp
                  with_reducible rfl
                rotate_left
                · simp only [Act.put, List.setIfInBounds_toArray, List.set_cons_zero, List.set_cons_succ, i64_w, i32_w]
                  rfl
                refine pure_ (i := 15) (N := some 7) (v := ?_) (a' := ?_) #[true, true, true, true, true, true, true, true, true, true, true, true, true, true, true, true] rfl rfl (any_of HT_.out (by kernel_rfl)) (fun _ _ _ h => h) (Or.inl ⟨by rfl, ?_⟩) ?_ ?_
                rotate_left
                · intro w'
                  go_simp
                  with_reducible rfl
                rotate_left
                · simp only [Act.put, List.setIfInBounds_toArray, List.set_cons_zero, List.set_cons_succ, i64_w, i32_w]
                  rfl
                refine done_ (done_of HT_.out (by kernel_rfl)) ?_
                have p26007 : 0 ≤ (x4_1 : Int) := of_decide_eq_true (by first | (with_reducible assumption) | assumption)
                have q26007 : x4_1 < (l0.length : Int) := of_decide_eq_true (by first | (with_reducible assumption) | assumption)
                obtain ⟨ad26007, e26007, hx26007_0, hx26007_1⟩ := at_T40 HR0.out x4_1 p26007 q26007
                obtain rfl : ad26001 = ad26007 := (by injection e26007)
                replace hx26007_0 := (HB.out.cell (World.block_lt_of_cell? w _ hx26007_0)).trans hx26007_0
                replace hx26007_1 := (HB.out.cell (World.block_lt_of_cell? w _ hx26007_1)).trans hx26007_1
                replace p26007 := eq_true p26007
                replace q26007 := eq_true q26007
                try go_wp2_with (first | ((with_reducible refine gate_callee (f := 20) rfl ?_); refine goesL_ (some 46) rfl rfl Tryd.func20 (by kernel_rfl) rfl #[.string ((rd_T40 l0 x4_1).f0)] rfl (by (try simp only [List.map_toArray, List.map_cons, List.map_nil]); first | done | rfl | (simp only [List.length_drop, List.length_take]; rfl)) ?_; (with_reducible refine (tinderref19_Default.calls k1 ((rd_T40 l0 x4_1).f0) t26008 t26009 _ A7.out).mono ?_); rintro e w' ⟨rfl, ⟨nd, rfl⟩⟩; refine ⟨_, rfl, ?_⟩; have p26010 : 0 ≤ (x4_1 : Int) := of_decide_eq_true (by first | (with_reducible assumption) | assumption); have q26010 : x4_1 < (l0.length : Int) := of_decide_eq_true (by first | (with_reducible assumption) | assumption); obtain ⟨ad26010, e26010, hx26010_0, hx26010_1⟩ := at_T40 HR0.out x4_1 p26010 q26010; obtain rfl : ad26001 = ad26010 := (by injection e26010); replace hx26010_0 := (HB.out.cell (World.block_lt_of_cell? w _ hx26010_0)).trans hx26010_0; replace hx26010_1 := (HB.out.cell (World.block_lt_of_cell? w _ hx26010_1)).trans hx26010_1; replace p26010 := eq_true p26010; replace q26010 := eq_true q26010))
                go_ret
                exact ⟨by first | rfl | (simp [errW_none, errW_some] <;> rfl) | (simp [*, errW_none, errW_some] <;> rfl), by repeat (first | (with_reducible first | exact HB.out | apply below_alloc | apply pw_below_drewN | apply below_drew1) | exact HB.out)⟩
            · rw [if_neg c8] at H
              have c8b0 : (t26006 == 0) = false := beq_eq_false_iff_ne.mpr c8
              have c8b1 : (t26006 != 0) = true := bne_iff_ne.mpr c8
              obtain rfl := Option.some.inj H
              have p26001 : 0 ≤ (x4_1 : Int) := of_decide_eq_true (by first | (with_reducible assumption) | assumption)
              have q26001 : x4_1 < (l0.length : Int) := of_decide_eq_true (by first | (with_reducible assumption) | assumption)
              obtain ⟨ad26001, e26001, hx26001_0, hx26001_1⟩ := at_T40 HR0.out x4_1 p26001 q26001
              cases e26001
              replace hx26001_0 := (HB.out.cell (World.block_lt_of_cell? w _ hx26001_0)).trans hx26001_0
              replace hx26001_1 := (HB.out.cell (World.block_lt_of_cell? w _ hx26001_1)).trans hx26001_1
              replace p26001 := eq_true p26001
              replace q26001 := eq_true q26001
              try go_wp2_with (first | ((with_reducible refine gate_callee (f := 46) rfl ?_); refine goesL_ (some 21) rfl rfl Tryd.func46 (by kernel_rfl) rfl #[.string ((rd_T40 l0 x4_1).f0)] rfl (by (try simp only [List.map_toArray, List.map_cons, List.map_nil]); first | done | rfl | (simp only [List.length_drop, List.length_take]; rfl)) ?_; (with_reducible refine (tinderref19_find.calls k1 ((rd_T40 l0 x4_1).f0) t26002 _ A4.out).mono ?_); rintro e w' ⟨rfl, ⟨nd, rfl⟩⟩; refine ⟨_, rfl, ?_⟩))
              (try (rw [drewN_self wr]; generalize hq_ : World.drewN wr _ = wr; have n0_ : Aside0 (Below w.heap.size w wr) := ⟨by rw [← hq_]; exact (by repeat (first | (with_reducible first | exact HB.out | apply below_alloc | apply pw_below_drewN | apply below_drew1) | exact HB.out))⟩; clear HB hq_; have HB := n0_; clear n0_))
              have n0_ := Aside0.mk (below_drew1 HB.out)
              clear HB
              have HB := n0_
              clear n0_
              have p26003 : 0 ≤ (x4_1 : Int) := of_decide_eq_true (by first | (with_reducible assumption) | assumption)
              have q26003 : x4_1 < (l0.length : Int) := of_decide_eq_true (by first | (with_reducible assumption) | assumption)
              obtain ⟨ad26003, e26003, hx26003_0, hx26003_1⟩ := at_T40 HR0.out x4_1 p26003 q26003
              have hw26003_1 := hx26003_1
              have hw26003_0 := hx26003_0
              obtain rfl : ad26001 = ad26003 := (by injection e26003)
              replace hx26003_0 := (HB.out.cell (World.block_lt_of_cell? w _ hx26003_0)).trans hx26003_0
              replace hx26003_1 := (HB.out.cell (World.block_lt_of_cell? w _ hx26003_1)).trans hx26003_1
              replace p26003 := eq_true p26003
              replace q26003 := eq_true q26003
              have p26004 : 0 ≤ (x4_1 : Int) := of_decide_eq_true (by first | (with_reducible assumption) | assumption)
              have q26004 : x4_1 < (l0.length : Int) := of_decide_eq_true (by first | (with_reducible assumption) | assumption)
              obtain ⟨ad26004, e26004, hx26004_0, hx26004_1⟩ := at_T40 HR0.out x4_1 p26004 q26004
              have hw26004_1 := hx26004_1
              have hw26004_0 := hx26004_0
              obtain rfl : ad26001 = ad26004 := (by injection e26004)
              replace hx26004_0 := (HB.out.cell (World.block_lt_of_cell? w _ hx26004_0)).trans hx26004_0
              replace hx26004_1 := (HB.out.cell (World.block_lt_of_cell? w _ hx26004_1)).trans hx26004_1
              replace p26004 := eq_true p26004
              replace q26004 := eq_true q26004
              refine start_ (n := 16) (S := fun w' => w'.cell? (ad26001.add ((x4_1).toNat * 2)) = some (.string ((rd_T40 l0 x4_1).f0)) ∧ w'.cell? ⟨(ad26001.add ((x4_1).toNat * 2)).block, (ad26001.add ((x4_1).toNat * 2)).off + 1, none⟩ = some (.string ((rd_T40 l0 x4_1).f1)) ∧ w'.cell? (ad26001.add ((x4_1).toNat * 2)) = some (.string ((rd_T40 l0 x4_1).f0)) ∧ w'.cell? ⟨(ad26001.add ((x4_1).toNat * 2)).block, (ad26001.add ((x4_1).toNat * 2)).off + 1, none⟩ = some (.string ((rd_T40 l0 x4_1).f1))) (ds := []) #[false, false, false, false, false, false, false, false, false, false, false, false, false, false, false, false] (by kernel_rfl) rfl rfl ⟨((HB.out.cell (World.block_lt_of_cell? w _ hw26003_0)).trans hw26003_0), ((HB.out.cell (World.block_lt_of_cell? w _ hw26003_1)).trans hw26003_1), ((HB.out.cell (World.block_lt_of_cell? w _ hw26004_0)).trans hw26004_0), ((HB.out.cell (World.block_lt_of_cell? w _ hw26004_1)).trans hw26004_1)⟩ (fun hHeld => ?_); refine with_tabW tinderref19_Right.tab9 tinderref19_Right.bits9 (fun HT_ HW_ => ?_)
              generalize wr.drew = w17 at HB hx26003_0 hx26003_1 hx26004_0 hx26004_1 hHeld ⊢
              refine pure_ (i := 0) (N := some 27) (v := ?_) (a' := ?_) #[true, false, false, false, false, false, false, false, false, false, false, false, false, false, false, false] rfl rfl (any_of HT_.out (by kernel_rfl)) (fun _ _ _ h => h) (Or.inl ⟨by rfl, ?_⟩) ?_ ?_
              rotate_left
              · intro w'
                go_simp
                with_reducible rfl
              rotate_left
              · simp only [Act.put, List.setIfInBounds_toArray, List.set_cons_zero, List.set_cons_succ, i64_w, i32_w]
                rfl
              refine pure_ (i := 1) (N := some 28) (v := ?_) (a' := ?_) #[true, true, false, false, false, false, false, false, false, false, false, false, false, false, false, false] rfl rfl (any_of HT_.out (by kernel_rfl)) (fun _ _ _ h => h) (Or.inl ⟨by rfl, ?_⟩) ?_ ?_
              rotate_left
              · intro w'
                go_simp
                with_reducible rfl
              rotate_left
              · simp only [Act.put, List.setIfInBounds_toArray, List.set_cons_zero, List.set_cons_succ, i64_w, i32_w]
                rfl
              refine pure_ (i := 2) (N := some 29) (v := ?_) (a' := ?_) #[true, true, true, false, false, false, false, false, false, false, false, false, false, false, false, false] rfl rfl (any_of HT_.out (by kernel_rfl)) (fun _ _ _ h => h) (Or.inl ⟨by rfl, ?_⟩) ?_ ?_
              rotate_left
              · intro w'
                go_simp
                with_reducible rfl
              rotate_left
              · simp only [Act.put, List.setIfInBounds_toArray, List.set_cons_zero, List.set_cons_succ, i64_w, i32_w]
                rfl
              refine pure_ (i := 3) (N := some 30) (v := ?_) (a' := ?_) #[true, true, true, true, false, false, false, false, false, false, false, false, false, false, false, false] rfl rfl (any_of HT_.out (by kernel_rfl)) (fun _ _ _ h => h) (Or.inl ⟨by rfl, ?_⟩) ?_ ?_
              rotate_left
              · intro w'
                go_simp
                with_reducible rfl
              rotate_left
              · simp only [Act.put, List.setIfInBounds_toArray, List.set_cons_zero, List.set_cons_succ, i64_w, i32_w]
                rfl
              refine pure_ (i := 5) (N := some 32) (v := ?_) (a' := ?_) #[true, true, true, true, false, true, false, false, false, false, false, false, false, false, false, false] rfl rfl (any_of HT_.out (by kernel_rfl)) (fun _ _ _ h => h) (Or.inl ⟨by rfl, ?_⟩) ?_ ?_
              rotate_left
              · intro w'
                go_simp
                with_reducible rfl
              rotate_left
              · simp only [Act.put, List.setIfInBounds_toArray, List.set_cons_zero, List.set_cons_succ, i64_w, i32_w]
                rfl
              refine pure_ (i := 6) (N := some 33) (v := ?_) (a' := ?_) #[true, true, true, true, false, true, true, false, false, false, false, false, false, false, false, false] rfl rfl (any_of HT_.out (by kernel_rfl)) (fun _ _ _ h => h) (Or.inl ⟨by rfl, ?_⟩) ?_ ?_
              rotate_left
              · intro w'
                go_simp
                with_reducible rfl
              rotate_left
              · simp only [Act.put, List.setIfInBounds_toArray, List.set_cons_zero, List.set_cons_succ, i64_w, i32_w]
                rfl
              refine pure_ (i := 7) (N := some 34) (v := ?_) (a' := ?_) #[true, true, true, true, false, true, true, true, false, false, false, false, false, false, false, false] rfl rfl (any_of HT_.out (by kernel_rfl)) (fun _ _ _ h => h) (Or.inl ⟨by rfl, ?_⟩) ?_ ?_
              rotate_left
              · intro w'
                go_simp
                with_reducible rfl
              rotate_left
              · simp only [Act.put, List.setIfInBounds_toArray, List.set_cons_zero, List.set_cons_succ, i64_w, i32_w]
                rfl
              refine pure_ (i := 8) (N := some 35) (v := ?_) (a' := ?_) #[true, true, true, true, false, true, true, true, true, false, false, false, false, false, false, false] rfl rfl (any_of HT_.out (by kernel_rfl)) (fun _ _ _ h => h) (Or.inl ⟨by rfl, ?_⟩) ?_ ?_
              rotate_left
              · intro w'
                go_simp
                with_reducible rfl
              rotate_left
              · simp only [Act.put, List.setIfInBounds_toArray, List.set_cons_zero, List.set_cons_succ, i64_w, i32_w]
                rfl
              refine take_ (i := 4) (N := some 31) (v := ?_) (a' := ?_) #[true, true, true, true, true, true, true, true, true, false, false, false, false, false, false, false] rfl rfl (take_ofW HT_.out HW_.out (by kernel_rfl)) (fun _ _ _ h => h) (Or.inl ⟨by rfl, ?_⟩) hHeld ?_ ?_
              rotate_left
              · rintro w' ⟨s0, s1, s2, s3⟩
                go_simp
                with_reducible rfl
              rotate_left
              · simp only [Act.put, List.setIfInBounds_toArray, List.set_cons_zero, List.set_cons_succ, i64_w, i32_w]
                rfl
              refine take_ (i := 9) (N := some 36) (v := ?_) (a' := ?_) #[true, true, true, true, true, true, true, true, true, true, false, false, false, false, false, false] rfl rfl (take_ofW HT_.out HW_.out (by kernel_rfl)) (fun _ _ _ h => h) (Or.inl ⟨by rfl, ?_⟩) hHeld ?_ ?_
              rotate_left
              · rintro w' ⟨s0, s1, s2, s3⟩
                go_simp
                with_reducible rfl
              rotate_left
              · simp only [Act.put, List.setIfInBounds_toArray, List.set_cons_zero, List.set_cons_succ, i64_w, i32_w]
                rfl
              refine one_ (i := 10) (N := some 37) #[true, true, true, true, true, true, true, true, true, true, true, false, false, false, false, false] rfl rfl (one_of HT_.out (by kernel_rfl)) (by decide) (fun K hK => ?_)
              refine goes_ Tryd.func18 (by kernel_rfl) rfl #[.string ((rd_T40 l0 x4_1).f0), .string ((rd_T40 l0 x4_1).f1)] (by rfl) rfl rfl (by (try simp only [List.map_toArray, List.map_cons, List.map_nil]); first | done | rfl | (simp only [List.length_drop, List.length_take]; rfl)) ?_
              with_reducible refine (tinderref19_Form.calls k1 ((rd_T40 l0 x4_1).f0) ((rd_T40 l0 x4_1).f1) t26005 t26006 _ A6.out).mono ?_
              rintro e w18 ⟨rfl, hb⟩
              refine ⟨_, rfl, ?_⟩
              have n0_ := Aside0.mk (below_step (by repeat (first | (with_reducible first | exact HB.out | apply below_alloc | apply pw_below_drewN | apply below_drew1) | exact HB.out)) hb)
              clear HB
              have HB := n0_
              clear n0_
              (try clear hb)
              (try clear hb2)
              (try clear hk)
              (try clear hi)
              refine hK.out _ _ ⟨((HB.out.cell (World.block_lt_of_cell? w _ hw26003_0)).trans hw26003_0), ((HB.out.cell (World.block_lt_of_cell? w _ hw26003_1)).trans hw26003_1), ((HB.out.cell (World.block_lt_of_cell? w _ hw26004_0)).trans hw26004_0), ((HB.out.cell (World.block_lt_of_cell? w _ hw26004_1)).trans hw26004_1)⟩ (fun hHeld => ?_)
              clear hK K
              refine norm_ (a' := ?_) ?_ ?_
              rotate_left
              · show Act.put _ (some 37) _ = _
                simp only [Act.put, List.setIfInBounds_toArray, List.set_cons_zero, List.set_cons_succ, i64_w, i32_w]
                rfl
              refine pure_ (i := 11) (N := some 26) (v := ?_) (a' := ?_) #[true, true, true, true, true, true, true, true, true, true, true, true, false, false, false, false] rfl rfl (any_of HT_.out (by kernel_rfl)) (fun _ _ _ h => h) (Or.inl ⟨by rfl, ?_⟩) ?_ ?_
              rotate_left
              · intro w'
                go_simp
                with_reducible rfl
              rotate_left
              · simp only [Act.put, List.setIfInBounds_toArray, List.set_cons_zero, List.set_cons_succ, i64_w, i32_w]
                rfl
              refine pure_ (i := 12) (N := some 38) (v := ?_) (a' := ?_) #[true, true, true, true, true, true, true, true, true, true, true, true, true, false, false, false] rfl rfl (any_of HT_.out (by kernel_rfl)) (fun _ _ _ h => h) (Or.inl ⟨by rfl, ?_⟩) ?_ ?_
              rotate_left
              · intro w'
                go_simp
                with_reducible rfl
              rotate_left
              · simp only [Act.put, List.setIfInBounds_toArray, List.set_cons_zero, List.set_cons_succ, i64_w, i32_w]
                rfl
              refine pure_ (i := 13) (N := some 39) (v := ?_) (a' := ?_) #[true, true, true, true, true, true, true, true, true, true, true, true, true, true, false, false] rfl rfl (any_of HT_.out (by kernel_rfl)) (fun _ _ _ h => h) (Or.inl ⟨by rfl, ?_⟩) ?_ ?_
              rotate_left
              · intro w'
                go_simp
                with_reducible rfl
              rotate_left
              · simp only [Act.put, List.setIfInBounds_toArray, List.set_cons_zero, List.set_cons_succ, i64_w, i32_w]
                rfl
              refine pure_ (i := 14) (N := some 6) (v := ?_) (a' := ?_) #[true, true, true, true, true, true, true, true, true, true, true, true, true, true, true, false] rfl rfl (any_of HT_.out (by kernel_rfl)) (fun _ _ _ h => h) (Or.inl ⟨by rfl, ?_⟩) ?_ ?_
              rotate_left
              · intro w'
                go_simp
                with_reducible rfl
              rotate_left
              · simp only [Act.put, List.setIfInBounds_toArray, List.set_cons_zero, List.set_cons_succ, i64_w, i32_w]
                rfl
              refine pure_ (i := 15) (N := some 7) (v := ?_) (a' := ?_) #[true, true, true, true, true, true, true, true, true, true, true, true, true, true, true, true] rfl rfl (any_of HT_.out (by kernel_rfl)) (fun _ _ _ h => h) (Or.inl ⟨by rfl, ?_⟩) ?_ ?_
              rotate_left
              · intro w'
                go_simp
                with_reducible rfl
              rotate_left
              · simp only [Act.put, List.setIfInBounds_toArray, List.set_cons_zero, List.set_cons_succ, i64_w, i32_w]
                rfl
              refine done_ (done_of HT_.out (by kernel_rfl)) ?_
              have p26007 : 0 ≤ (x4_1 : Int) := of_decide_eq_true (by first | (with_reducible assumption) | assumption)
              have q26007 : x4_1 < (l0.length : Int) := of_decide_eq_true (by first | (with_reducible assumption) | assumption)
              obtain ⟨ad26007, e26007, hx26007_0, hx26007_1⟩ := at_T40 HR0.out x4_1 p26007 q26007
              obtain rfl : ad26001 = ad26007 := (by injection e26007)
              replace hx26007_0 := (HB.out.cell (World.block_lt_of_cell? w _ hx26007_0)).trans hx26007_0
              replace hx26007_1 := (HB.out.cell (World.block_lt_of_cell? w _ hx26007_1)).trans hx26007_1
              replace p26007 := eq_true p26007
              replace q26007 := eq_true q26007
              try go_wp2_with (first | ((with_reducible refine gate_callee (f := 20) rfl ?_); refine goesL_ (some 46) rfl rfl Tryd.func20 (by kernel_rfl) rfl #[.string ((rd_T40 l0 x4_1).f0)] rfl (by (try simp only [List.map_toArray, List.map_cons, List.map_nil]); first | done | rfl | (simp only [List.length_drop, List.length_take]; rfl)) ?_; (with_reducible refine (tinderref19_Default.calls k1 ((rd_T40 l0 x4_1).f0) t26008 t26009 _ A7.out).mono ?_); rintro e w' ⟨rfl, ⟨nd, rfl⟩⟩; refine ⟨_, rfl, ?_⟩))
              go_ret
              exact ⟨by first | rfl | (simp [errW_none, errW_some] <;> rfl) | (simp [*, errW_none, errW_some] <;> rfl), by repeat (first | (with_reducible first | exact HB.out | apply below_alloc | apply pw_below_drewN | apply below_drew1) | exact HB.out)⟩
        · rw [if_neg c3] at H
          exact absurd H (by simp)
      · rw [if_neg c2] at H
        have c2b0 : decide (x4_1 < (l0.length : Int)) = false := decide_eq_false c2
        clear c2
        obtain rfl := Option.some.inj H
        go_wp2
        go_ret
        exact ⟨by first | rfl | (simp [errW_none, errW_some] <;> rfl) | (simp [*, errW_none, errW_some] <;> rfl), by repeat (first | (with_reducible first | exact HB.out | apply below_alloc | apply pw_below_drewN | apply below_drew1) | exact HB.out)⟩

end Go.Proofs.YtefhngadeimklaaDoor.Q
end
section
set_option linter.unusedSimpArgs false
set_option linter.unusedVariables false
namespace Go.Proofs.YtefhngadeimklaaDoor.Q
open Go.RowKit Go.Proofs.YtefhngadeimklaaDoorW.PrintWords Go.Proofs.YtefhngadeimklaaDoorW.PrintLast
def vars9 : List S57 := (vars_all.f).getD []
theorem vars9_eq : vars_all.f = some vars9 := rfl
theorem vars9_len : vars9.length = 9 := rfl
def nmV (i : Int) : ByteArray := (rd_T57 vars9 i).f0
def kdV (i : Int) : Int := (rd_T57 vars9 i).f1
def stV (i : Int) : ByteArray := (rd_T57 vars9 i).f2
def rkV (i : Int) : Int := if kdV i = 0 then 98 else if kdV i = 1 then 110 else 116
theorem variable_eq (i : Int) (h : 0 ≤ i ∧ i < 9) : tinderref19_Variable.f i = some (nmV i, rkV i, stV i) := by
  obtain h | h | h | h | h | h | h | h | h : i = 0 ∨ i = 1 ∨ i = 2 ∨ i = 3 ∨ i = 4 ∨ i = 5 ∨ i = 6 ∨ i = 7 ∨ i = 8 := by omega
  all_goals (subst h; rfl)
theorem kd_range (i : Int) (h : 0 ≤ i ∧ i < 9) : kdV i = 0 ∨ kdV i = 1 ∨ kdV i = 2 := by
  obtain h | h | h | h | h | h | h | h | h : i = 0 ∨ i = 1 ∨ i = 2 ∨ i = 3 ∨ i = 4 ∨ i = 5 ∨ i = 6 ∨ i = 7 ∨ i = 8 := by omega
  all_goals (subst h; decide)
def fndG (s : ByteArray) : Nat → Int → Int
  | 0, _ => -1
  | d + 1, i => if (nmV i).toList = s.toList then i else fndG s d (i + 1)
def fndF (s : ByteArray) : Int := fndG s 9 0
theorem fndG_range (s : ByteArray) : ∀ (d : Nat) (i : Int), fndG s d i = -1 ∨ (i ≤ fndG s d i ∧ fndG s d i < i + d)
  | 0, _ => .inl rfl
  | d + 1, i => by
    unfold fndG
    split
    · exact .inr ⟨Int.le_refl _, by omega⟩
    · rcases fndG_range s d (i + 1) with h | h
      · exact .inl h
      · exact .inr ⟨by omega, by omega⟩
theorem fndG_name (s : ByteArray) : ∀ (d : Nat) (i : Int), 0 ≤ i → 0 ≤ fndG s d i → (nmV (fndG s d i)).toList = s.toList
  | 0, _, _, h => absurd h (by unfold fndG; decide)
  | d + 1, i, h0, h => by
    unfold fndG at h ⊢
    split
    · assumption
    · rename_i hn
      rw [if_neg hn] at h
      exact fndG_name s d (i + 1) (by omega) h
theorem fndG_congr {s t : ByteArray} (e : s.toList = t.toList) : ∀ (d : Nat) (i : Int), fndG s d i = fndG t d i
  | 0, _ => rfl
  | d + 1, i => by unfold fndG; rw [e, fndG_congr e d (i + 1)]
theorem fndF_congr {s t : ByteArray} (e : s.toList = t.toList) : fndF s = fndF t := fndG_congr e 9 0
theorem fndF_range (s : ByteArray) : -1 ≤ fndF s ∧ fndF s < 9 := by
  rcases fndG_range s 9 0 with h | h <;> unfold fndF <;> omega
def fndR (n : Int) : ByteArray × Int × ByteArray × Int × Bool := if 0 ≤ n then (nmV n, kdV n, stV n, n, true) else ((⟨#[]⟩ : ByteArray), 0, (⟨#[]⟩ : ByteArray), (-1), false)
theorem find_go (s : ByteArray) : ∀ (d k : Nat) (i : Int), 0 ≤ i → i + d = 9 → d < k → vars_find.l0 k s vars9 9 i = some (fndR (fndG s d i))
  | 0, k, i, h0, h1, hk => by
    obtain ⟨k, rfl⟩ : ∃ m, k = m + 1 := ⟨k - 1, by omega⟩
    rw [vars_find.l0, if_neg (by omega)]
    rfl
  | d + 1, k, i, h0, h1, hk => by
    obtain ⟨k, rfl⟩ : ∃ m, k = m + 1 := ⟨k - 1, by omega⟩
    have hw : wrap64 (i + 1) = i + 1 := by unfold wrap64; omega
    rw [vars_find.l0, if_pos (by omega), if_pos h0, if_pos (by rw [vars9_len]; omega), hw, find_go s d k (i + 1) (by omega) (by omega) (by omega), fndG]
    by_cases he : (nmV i).toList = s.toList
    · rw [if_pos he, show fndR i = (nmV i, kdV i, stV i, i, true) from if_pos h0]
      exact if_pos he
    · rw [if_neg he]
      exact if_neg he
theorem find_eq (k : Nat) (hk : 10 ≤ k) (s : ByteArray) : vars_find.f k s = some (fndR (fndF s)) := by
  unfold vars_find.f
  rw [vars9_eq, Option.bind_some, vars9_len]
  exact find_go s 9 k 0 (Int.le_refl _) rfl (by omega)
theorem reffind_go (s : ByteArray) : ∀ (d k : Nat) (i : Int), 0 ≤ i → i + d = 9 → d < k → tinderref19_find.l0 k s i = some (fndG s d i)
  | 0, k, i, h0, h1, hk => by
    obtain ⟨k, rfl⟩ : ∃ m, k = m + 1 := ⟨k - 1, by omega⟩
    rw [tinderref19_find.l0, if_neg (by omega)]
    rfl
  | d + 1, k, i, h0, h1, hk => by
    obtain ⟨k, rfl⟩ : ∃ m, k = m + 1 := ⟨k - 1, by omega⟩
    have hw : wrap64 (i + 1) = i + 1 := by unfold wrap64; omega
    rw [tinderref19_find.l0, if_pos (by omega), variable_eq i ⟨h0, by omega⟩, Option.bind_some, hw, reffind_go s d k (i + 1) (by omega) (by omega) (by omega), fndG]
    by_cases he : (nmV i).toList = s.toList
    · rw [if_pos he, if_pos he]
    · rw [if_neg he, if_neg he]
theorem reffind_eq (k : Nat) (hk : 10 ≤ k) (s : ByteArray) : tinderref19_find.f k s = some (fndF s) := reffind_go s 9 k 0 (Int.le_refl _) rfl (by omega)
def defF (s : ByteArray) : ByteArray × Int := if 0 ≤ fndF s then (stV (fndF s), 0) else ((⟨#[]⟩ : ByteArray), 2)
theorem default_eq (k : Nat) (hk : 10 ≤ k) (s : ByteArray) : vars_Default.f k s = some (defF s) := by
  unfold vars_Default.f defF
  rw [find_eq k hk, Option.bind_some, fndR]
  by_cases h : 0 ≤ fndF s
  · rw [if_pos h, if_pos h]; rfl
  · rw [if_neg h, if_neg h]; rfl
theorem refdefault_eq (k : Nat) (hk : 10 ≤ k) (s : ByteArray) : tinderref19_Default.f k s = some (defF s) := by
  have hr := fndF_range s
  unfold tinderref19_Default.f defF
  rw [reffind_eq k hk, Option.bind_some]
  by_cases h : 0 ≤ fndF s
  · rw [if_pos h, if_neg (by omega), variable_eq _ ⟨h, hr.2⟩]; rfl
  · rw [if_neg h, if_pos (by omega)]
def okB (c : Int) : Bool := decide (32 ≤ c) && decide (c ≤ 126)
def trueL : List UInt8 := [116, 114, 117, 101]
def falseL : List UInt8 := [102, 97, 108, 115, 101]
def formV (kd : Int) (v : ByteArray) : ByteArray × Bool :=
  if kd = 0 then (v, decide (v.toList = trueL) || decide (v.toList = falseL))
  else if kd = 1 then (if (parF v 10).2 = 0 then (showB 10 (parF v 10).1, true) else ((⟨#[]⟩ : ByteArray), false))
  else if (bytesOf v).all okB = true then (v, decide (v.size ≤ 128)) else ((⟨#[]⟩ : ByteArray), false)
theorem par_range (s : ByteArray) (b : Int) (hb : 2 ≤ b ∧ b ≤ 36) (hs : s.size ≤ 9223372036854775806) : 0 ≤ (parF s b).1 ∧ (parF s b).1 < 4294967296 := by
  have hp : ∀ (l : List Int) (n : Int) (g : Bool), (g = false → 0 ≤ n ∧ n < 4294967296) → ∀ m, parL b l n g = some (m, false) → 0 ≤ m ∧ m < 4294967296 := by
    intro l
    induction l with
    | nil =>
      intro n g hg m hm
      simp only [parL_nil, Option.some.injEq, Prod.mk.injEq] at hm
      obtain ⟨rfl, rfl⟩ := hm
      exact hg rfl
    | cons c l ih =>
      intro n g hg m hm
      rw [parL_cons] at hm
      split at hm
      · split at hm
        · exact ih n true (fun h => by cases h) m hm
        · rename_i hgf
          have hn := hg (by simpa using hgf)
          have hv := val_range c b
          refine ih _ _ (fun h => ?_) m hm
          have h := of_decide_eq_false h
          have h2 : 0 ≤ n * b := Int.mul_nonneg hn.1 (by omega)
          omega
      · cases hm
  have hq : ∀ (neg : Bool) (l : List Int), 0 ≤ (resF neg (parL b l 0 false)).1 ∧ (resF neg (parL b l 0 false)).1 < 4294967296 := by
    intro neg l
    cases he : parL b l 0 false with
    | none => exact ⟨(by decide : (0 : Int) ≤ 0), (by decide : (0 : Int) < 4294967296)⟩
    | some y =>
      obtain ⟨m, g⟩ := y
      cases g with
      | true => exact ⟨(by decide : (0 : Int) ≤ 0), (by decide : (0 : Int) < 4294967296)⟩
      | false =>
        have := hp l 0 false (fun _ => ⟨by decide, by decide⟩) m he
        cases neg with
        | true => rw [resF_neg]; dsimp only; omega
        | false => rw [resF_pos]; exact this
  unfold parF
  rw [if_pos hb]
  split
  · split
    · exact ⟨by decide, by decide⟩
    · exact hq _ _
  · split
    · exact ⟨by decide, by decide⟩
    · exact hq _ _
theorem text_go (v : ByteArray) (hv : v.size ≤ 140737488351232) : ∀ (d k : Nat) (i : Int), 0 ≤ i → i + d = v.size → d < k → vars_variable_form.l0 k v v.size i = some (if ((bytesOf v).drop i.toNat).all okB = true then (v, decide (v.size ≤ 128)) else ((⟨#[]⟩ : ByteArray), false))
  | 0, k, i, h0, h1, hk => by
    obtain ⟨k, rfl⟩ : ∃ m, k = m + 1 := ⟨k - 1, by omega⟩
    rw [vars_variable_form.l0, if_neg (by omega), List.drop_eq_nil_of_le (by rw [bytesOf_length]; omega), List.all_nil, if_pos rfl]
    congr 2
    exact decide_eq_decide.2 (by omega)
  | d + 1, k, i, h0, h1, hk => by
    obtain ⟨k, rfl⟩ : ∃ m, k = m + 1 := ⟨k - 1, by omega⟩
    have hw : wrap64 (i + 1) = i + 1 := by unfold wrap64; omega
    rw [vars_variable_form.l0, if_pos (by omega), if_pos h0, if_pos (by omega), hw, text_go v hv d k (i + 1) (by omega) (by omega) (by omega), bytes_at v i h0 (by omega), List.all_cons, okB]
    by_cases h2 : bt v i < 32
    · rw [if_pos h2]; simp [show ¬ 32 ≤ bt v i by omega]
    · rw [if_neg h2]
      by_cases h3 : bt v i > 126
      · rw [if_pos h3]; simp [show ¬ bt v i ≤ 126 by omega]
      · rw [if_neg h3]; simp [show 32 ≤ bt v i by omega, show bt v i ≤ 126 by omega]
theorem form_var_eq (k : Nat) (nm st v : ByteArray) (kd : Int) (hv : v.size ≤ 140737488351232) (hk : v.size + 100 < k) : vars_variable_form.f k nm kd st v = some (formV kd v) := by
  unfold vars_variable_form.f formV
  by_cases h0 : kd = 0
  · rw [if_pos h0, if_pos h0, show ([116, 114, 117, 101] : List UInt8) = trueL from rfl, show ([102, 97, 108, 115, 101] : List UInt8) = falseL from rfl]
    by_cases h1 : v.toList = trueL
    · rw [if_pos h1]; simp [h1]
    · rw [if_neg h1, decide_eq_false h1, Bool.false_or]
      congr 2
      by_cases h2 : v.toList = falseL
      · rw [decide_eq_true h2]; exact beq_iff_eq.2 h2
      · rw [decide_eq_false h2]; exact beq_eq_false_iff_ne.2 h2
  · rw [if_neg h0, if_neg h0]
    by_cases h1 : kd = 1
    · rw [if_pos h1, if_pos h1, parse_eq k v 10 (by omega) (by omega), Option.bind_some]
      by_cases h2 : (parF v 10).2 = 0
      · have hr := par_range v 10 (by decide) (by omega)
        rw [if_pos h2, if_pos h2, digit_Show.f, if_pos hr, if_pos rfl]
        rfl
      · rw [if_neg h2, if_neg h2]
    · rw [if_neg h1, if_neg h1, text_go v hv v.size k 0 (Int.le_refl _) (by omega) (by omega)]
      rfl
def formF (s v : ByteArray) : ByteArray × Int := if 0 ≤ fndF s then (if (formV (kdV (fndF s)) v).2 = true then ((formV (kdV (fndF s)) v).1, 0) else ((⟨#[]⟩ : ByteArray), 27)) else ((⟨#[]⟩ : ByteArray), 2)
theorem form_eq (k : Nat) (s v : ByteArray) (hv : v.size ≤ 140737488351232) (hk : v.size + 100 < k) : vars_Form.f k s v = some (formF s v) := by
  unfold vars_Form.f formF
  rw [find_eq k (by omega), Option.bind_some, fndR]
  by_cases h : 0 ≤ fndF s
  · rw [if_pos h, if_pos h, if_pos rfl, form_var_eq k _ _ v _ hv hk, Option.bind_some]
    split <;> rfl
  · rw [if_neg h, if_neg h]; rfl
theorem reftext_go (v : ByteArray) (hv : v.size ≤ 140737488351232) : ∀ (d k : Nat) (i : Int), 0 ≤ i → i + d = v.size → d < k → tinderref19_Form.l0 k v i = some (if ((bytesOf v).drop i.toNat).all okB = true then (if v.size ≤ 128 then (v, 0) else ((⟨#[]⟩ : ByteArray), 27)) else ((⟨#[]⟩ : ByteArray), 27))
  | 0, k, i, h0, h1, hk => by
    obtain ⟨k, rfl⟩ : ∃ m, k = m + 1 := ⟨k - 1, by omega⟩
    rw [tinderref19_Form.l0, if_neg (by omega), List.drop_eq_nil_of_le (by rw [bytesOf_length]; omega), List.all_nil, if_pos rfl]
    by_cases h : v.size ≤ 128
    · rw [if_pos (by omega), if_pos h]
    · rw [if_neg (by omega), if_neg h]
  | d + 1, k, i, h0, h1, hk => by
    obtain ⟨k, rfl⟩ : ∃ m, k = m + 1 := ⟨k - 1, by omega⟩
    have hw : wrap64 (i + 1) = i + 1 := by unfold wrap64; omega
    rw [tinderref19_Form.l0, if_pos (by omega), if_pos h0, hw, reftext_go v hv d k (i + 1) (by omega) (by omega) (by omega), bytes_at v i h0 (by omega), List.all_cons, okB]
    by_cases h2 : bt v i < 32
    · rw [if_pos h2]; simp [show ¬ 32 ≤ bt v i by omega]
    · rw [if_neg h2]
      by_cases h3 : bt v i > 126
      · rw [if_pos h3]; simp [show ¬ bt v i ≤ 126 by omega]
      · rw [if_neg h3]; simp [show 32 ≤ bt v i by omega, show bt v i ≤ 126 by omega]
theorem refform_eq (k : Nat) (s v : ByteArray) (hv : v.size ≤ 140737488351232) (hk : v.size + 100 < k) : tinderref19_Form.f k s v = some (formF s v) := by
  have hr := fndF_range s
  unfold tinderref19_Form.f formF
  rw [reffind_eq k (by omega), Option.bind_some]
  by_cases h : 0 ≤ fndF s
  · rw [if_pos h, if_neg (by omega), variable_eq _ ⟨h, hr.2⟩, Option.bind_some, rkV, formV]
    rcases kd_range _ ⟨h, hr.2⟩ with e | e | e
    · rw [e]
      simp only [if_pos, if_true]
      rw [show ([116, 114, 117, 101] : List UInt8) = trueL from rfl, show ([102, 97, 108, 115, 101] : List UInt8) = falseL from rfl]
      by_cases h1 : v.toList = trueL
      · simp [h1]
      · by_cases h2 : v.toList = falseL
        · simp [h2]
        · simp [h1, h2]
    · rw [e]
      dsimp only
      rw [if_neg (show ¬ (if (1 : Int) = 0 then (98 : Int) else if (1 : Int) = 1 then 110 else 116) = 98 by decide), if_pos (show (if (1 : Int) = 0 then (98 : Int) else if (1 : Int) = 1 then 110 else 116) = 110 by decide), if_neg (show ¬ (1 : Int) = 0 by decide), if_pos rfl, refparse_eq k v 10 (by omega) (by omega), Option.bind_some]
      by_cases h2 : (parF v 10).2 = 0
      · have hp := par_range v 10 (by decide) (by omega)
        rw [if_pos h2, if_pos h2, tinderref02_Show.f, if_pos hp, if_pos (by decide), if_pos rfl]
        rfl
      · rw [if_neg h2, if_neg h2, if_neg (by decide)]
    · rw [e]
      dsimp only
      rw [if_neg (show ¬ (if (2 : Int) = 0 then (98 : Int) else if (2 : Int) = 1 then 110 else 116) = 98 by decide), if_neg (show ¬ (if (2 : Int) = 0 then (98 : Int) else if (2 : Int) = 1 then 110 else 116) = 110 by decide), if_neg (show ¬ (2 : Int) = 0 by decide), if_neg (show ¬ (2 : Int) = 1 by decide), reftext_go v hv v.size k 0 (Int.le_refl _) (by omega) (by omega)]
      rw [show ((0 : Int).toNat) = 0 from rfl, List.drop_zero]
      by_cases h2 : (bytesOf v).all okB = true
      · rw [if_pos h2, if_pos h2]
        by_cases h3 : v.size ≤ 128
        · simp [h3]
        · simp [h3]
      · rw [if_neg h2, if_neg h2, if_neg (by decide)]
  · rw [if_neg h, if_pos (by omega)]
/-- May a setting stand behind the variable of number 'last'? -/
def okV (last : Int) (x : S40) : Bool := decide (0 ≤ fndF x.f0) && (formV (kdV (fndF x.f0)) x.f1).2 && decide (last < fndF x.f0) && decide ((formV (kdV (fndF x.f0)) x.f1).1.toList = x.f1.toList) && !decide ((formV (kdV (fndF x.f0)) x.f1).1.toList = (stV (fndF x.f0)).toList)
def rightL : List S40 → Int → Bool
  | [], _ => true
  | x :: r, last => okV last x && rightL r (fndF x.f0)
def rightF (l : List S40) : Bool := rightL l (-1)
def Fits (l : List S40) : Prop := ∀ x ∈ l, x.f0.size ≤ 140737488351232 ∧ x.f1.size ≤ 140737488351232
theorem at_drop (l : List S40) (i : Int) (h0 : 0 ≤ i) (h1 : i < l.length) : l.drop i.toNat = rd_T40 l i :: l.drop (i + 1).toNat := by
  rw [List.drop_eq_getElem_cons (show i.toNat < l.length by omega), show (i + 1).toNat = i.toNat + 1 by omega]
  simp [rd_T40, List.getD_eq_getElem?_getD, List.getElem?_eq_getElem (show i.toNat < l.length by omega)]
theorem rd_mem (l : List S40) (i : Int) (h0 : 0 ≤ i) (h1 : i < l.length) : rd_T40 l i ∈ l := by
  have h := at_drop l i h0 h1
  exact List.mem_of_mem_drop (h ▸ List.mem_cons_self ..)
theorem right_go (l : List S40) (hf : Fits l) : ∀ (d k : Nat) (i last : Int), 0 ≤ i → i + d = l.length → l.length < 1125899906842624 → d + 140737488351400 < k → vars_Right.l0 k last l l.length i = some (rightL (l.drop i.toNat) last)
  | 0, k, i, last, h0, h1, hl, hk => by
    obtain ⟨k, rfl⟩ : ∃ m, k = m + 1 := ⟨k - 1, by omega⟩
    rw [vars_Right.l0, if_neg (by omega), List.drop_eq_nil_of_le (by omega)]
    rfl
  | d + 1, k, i, last, h0, h1, hl, hk => by
    obtain ⟨k, rfl⟩ : ∃ m, k = m + 1 := ⟨k - 1, by omega⟩
    have hw : wrap64 (i + 1) = i + 1 := by unfold wrap64; omega
    have hx := hf _ (rd_mem l i h0 (by omega))
    rw [vars_Right.l0, if_pos (by omega), if_pos h0, if_pos (by omega), find_eq k (by omega), Option.bind_some, hw, right_go l hf d k (i + 1) _ (by omega) (by omega) hl (by omega), at_drop l i h0 (by omega), rightL, okV, form_var_eq k _ _ _ _ hx.2 (by omega), Option.bind_some]
    generalize rd_T40 l i = x
    unfold fndR
    by_cases h : 0 ≤ fndF x.f0
    · rw [if_pos h, if_pos rfl, decide_eq_true h]
      by_cases h2 : (formV (kdV (fndF x.f0)) x.f1).2 = true
      · rw [if_pos h2, h2]
        by_cases h3 : fndF x.f0 ≤ last
        · rw [if_pos h3]; simp [show ¬ last < fndF x.f0 by omega]
        · rw [if_neg h3]
          by_cases h4 : (formV (kdV (fndF x.f0)) x.f1).1.toList = x.f1.toList
          · rw [if_pos h4]
            by_cases h5 : (formV (kdV (fndF x.f0)) x.f1).1.toList = (stV (fndF x.f0)).toList
            · rw [if_pos h5]; simp [h5]
            · rw [if_neg h5]; simp [h4, show last < fndF x.f0 by omega, h4 ▸ h5]
          · rw [if_neg h4]; simp [h4]
      · rw [if_neg h2]; simp [h2]
    · rw [if_neg h, if_neg (by decide)]; simp [h]
theorem right_eq (l : List S40) (hf : Fits l) (hl : l.length < 1125899906842624) (k : Nat) (hk : l.length + 140737488351400 < k) : vars_Right.f k l = some (rightF l) := right_go l hf l.length k 0 (-1) (Int.le_refl _) (by omega) hl hk
theorem refright_go (l : List S40) (hf : Fits l) : ∀ (d k : Nat) (i last : Int), 0 ≤ i → i + d = l.length → l.length < 1125899906842624 → d + 140737488351400 < k → -1 ≤ last → tinderref19_Right.l0 k l last i = some (rightL (l.drop i.toNat) last)
  | 0, k, i, last, h0, h1, hl, hk, hla => by
    obtain ⟨k, rfl⟩ : ∃ m, k = m + 1 := ⟨k - 1, by omega⟩
    rw [tinderref19_Right.l0, if_neg (by omega), List.drop_eq_nil_of_le (by omega)]
    rfl
  | d + 1, k, i, last, h0, h1, hl, hk, hla => by
    obtain ⟨k, rfl⟩ : ∃ m, k = m + 1 := ⟨k - 1, by omega⟩
    have hw : wrap64 (i + 1) = i + 1 := by unfold wrap64; omega
    have hx := hf _ (rd_mem l i h0 (by omega))
    have hr := fndF_range (rd_T40 l i).f0
    rw [tinderref19_Right.l0, if_pos (by omega), if_pos h0, reffind_eq k (by omega), Option.bind_some, hw, refright_go l hf d k (i + 1) _ (by omega) (by omega) hl (by omega) hr.1, at_drop l i h0 (by omega), rightL, okV, refform_eq k _ _ hx.2 (by omega), Option.bind_some, refdefault_eq k (by omega), Option.bind_some]
    generalize rd_T40 l i = x at *
    by_cases h3 : fndF x.f0 ≤ last
    · rw [if_pos h3]; simp [show ¬ last < fndF x.f0 by omega]
    · rw [if_neg h3]
      have h : 0 ≤ fndF x.f0 := by omega
      rw [formF, if_pos h, defF, if_pos h, decide_eq_true h]
      by_cases h2 : (formV (kdV (fndF x.f0)) x.f1).2 = true
      · rw [if_pos h2, h2, if_pos rfl]
        by_cases h4 : (formV (kdV (fndF x.f0)) x.f1).1.toList = x.f1.toList
        · rw [if_pos h4]
          by_cases h5 : (formV (kdV (fndF x.f0)) x.f1).1.toList = (stV (fndF x.f0)).toList
          · rw [if_pos h5]; simp [h5]
          · rw [if_neg h5]; simp [h4, show last < fndF x.f0 by omega, h4 ▸ h5]
        · rw [if_neg h4]; simp [h4]
      · rw [if_neg h2, if_neg (by decide)]; simp [h2]
theorem refright_eq (l : List S40) (hf : Fits l) (hl : l.length < 1125899906842624) (k : Nat) (hk : l.length + 140737488351400 < k) : tinderref19_Right.f k l = some (rightF l) := refright_go l hf l.length k 0 (-1) (Int.le_refl _) (by omega) hl hk (by decide)
end Go.Proofs.YtefhngadeimklaaDoor.Q
end
section
set_option linter.unusedSimpArgs false
set_option linter.unusedVariables false
namespace Go.Proofs.YtefhngadeimklaaDoor.Q
open Go.RowKit Go.Proofs.YtefhngadeimklaaDoorW.PrintWords Go.Proofs.YtefhngadeimklaaDoorW.PrintLast
def ixC (c : UInt8) (s : ByteArray) : Int := Lib.indexByte s.data.toList c
def headC (c : UInt8) (s : ByteArray) : ByteArray := if 0 ≤ ixC c s then s.extract 0 (ixC c s).toNat else s
def tailC (c : UInt8) (s : ByteArray) : ByteArray := if 0 ≤ ixC c s then s.extract (ixC c s + 1).toNat s.size else ⟨#[]⟩
theorem ixC_lt (c : UInt8) (s : ByteArray) (h : 0 ≤ ixC c s) : ixC c s < s.size := by
  obtain ⟨o, ho⟩ := Int.eq_ofNat_of_zero_le h
  have h1 := (Lib.indexByte_some ho).1
  have h2 := (List.getElem?_eq_some_iff.1 h1).1
  rw [ho]
  have e : s.data.toList.length = s.size := Array.length_toList
  have : o < s.size := e ▸ h2
  omega
set_option maxHeartbeats 4000000 in
set_option maxRecDepth 100000 in
theorem cutIn_calls (c : UInt8) (s : ByteArray) (w : World) (hs : s.size ≤ 140737488351232) : Calls Tryd.prog 64 #[.string s, .string ⟨#[c]⟩] w fun e w' => e = .returned (.tuple #[.string (headC c s), .string (tailC c s), .bool (decide (0 ≤ ixC c s))]) ∧ Below w.heap.size w w' := by
  obtain ⟨i, hi⟩ : ∃ i, i = ixC c s := ⟨_, rfl⟩
  have HI := Aside0.mk (show ∀ W : World, Calls Tryd.prog 82 #[.string s, .string ⟨#[c]⟩] W (fun e w' => e = .returned (.int .i64 i) ∧ w' = W) from fun W => by rw [hi]; exact Tryd.stringslite_Index_one s c W)
  have hl : headC c s = if 0 ≤ i then s.extract 0 i.toNat else s := by rw [hi]; rfl
  have hr : tailC c s = if 0 ≤ i then s.extract (i + 1).toNat s.size else ⟨#[]⟩ := by rw [hi]; rfl
  rw [← hi, hl, hr]
  clear hl hr
  by_cases h0 : 0 ≤ i
  · have hlt := ixC_lt c s (hi ▸ h0)
    rw [← hi] at hlt
    rw [if_pos h0, if_pos h0]
    have d0 : decide (0 ≤ i) = true := decide_eq_true h0
    have q1 : (0 ≤ i) = True := eq_true h0
    have q2 : (i ≤ (s.size : Int)) = True := eq_true (by omega)
    have q3 : (0 ≤ i + 1) = True := eq_true (by omega)
    have q4 : (i + 1 ≤ (s.size : Int)) = True := eq_true (by omega)
    have q5 : IntKind.i64.wrap (i + 1) = i + 1 := (i64_w _).trans (by unfold wrap64; omega)
    rw [d0]
    clear hi h0 hlt hs
    go_enter Tryd.func64, Tryd.ntmps64
    go_wp2_with (go_at_call 82; (with_reducible refine (HI.out _).mono ?_); rintro e w7 ⟨rfl, rfl⟩)
    go_quiet (fail)
    go_wp2
    exact bodyPost_ret (results_tmp3 rfl _ _ _) rfl ⟨rfl, pw_below_drewN (Below.refl _ _) _⟩
  · rw [if_neg h0, if_neg h0]
    have d0 : decide (0 ≤ i) = false := decide_eq_false h0
    rw [d0]
    clear hi h0 hs
    go_enter Tryd.func64, Tryd.ntmps64
    go_wp2_with (go_at_call 82; (with_reducible refine (HI.out _).mono ?_); rintro e w7 ⟨rfl, rfl⟩)
    exact bodyPost_ret (results_tmp3 rfl _ _ _) rfl ⟨rfl, Below.refl _ _⟩
set_option maxHeartbeats 4000000 in
theorem cut_calls (c : UInt8) (s : ByteArray) (w : World) (hs : s.size ≤ 140737488351232) : Calls Tryd.prog 52 #[.string s, .string ⟨#[c]⟩] w fun e w' => e = .returned (.tuple #[.string (headC c s), .string (tailC c s), .bool (decide (0 ≤ ixC c s))]) ∧ Below w.heap.size w w' := by
  have HC := Aside0.mk (fun W : World => cutIn_calls c s W hs)
  generalize headC c s = l1 at HC ⊢
  generalize tailC c s = l2 at HC ⊢
  generalize decide (0 ≤ ixC c s) = b at HC ⊢
  go_enter Tryd.func52, Tryd.ntmps52
  go_wp2_with (go_at_call 64; (with_reducible refine (HC.out _).mono ?_); rintro e w7 ⟨rfl, hb⟩; have HB := Aside0.mk hb; clear hb)
  exact bodyPost_ret (results_tmp3 rfl _ _ _) rfl ⟨rfl, HB.out⟩
/-- strings.Cut in the printed form, at a separator of one byte. -/
def strings_Cut.f (s p : ByteArray) : Option (ByteArray × ByteArray × Bool) := if s.size ≤ 140737488351232 then (match p.data.toList with | [c] => some (headC c s, tailC c s, decide (0 ≤ ixC c s)) | _ => none) else none
theorem strings_Cut.calls (a0 a1 : ByteArray) (r1 r2 : ByteArray) (r3 : Bool) (w : World) (h : strings_Cut.f a0 a1 = some (r1, r2, r3)) : Calls Tryd.prog 52 #[.string a0, .string a1] w fun e w' => e = .returned (.tuple #[.string r1, .string r2, .bool r3]) ∧ Below w.heap.size w w' := by
  unfold strings_Cut.f at h
  split at h
  · rename_i hs
    split at h
    · rename_i c hc
      have e : a1 = ⟨#[c]⟩ := by
        apply ByteArray.ext
        apply Array.ext'
        exact hc
      obtain ⟨rfl, h2⟩ := Prod.mk.inj (Option.some.inj h)
      obtain ⟨rfl, rfl⟩ := Prod.mk.inj h2
      rw [e]
      exact cut_calls c a0 w hs
    · cases h
  · cases h
end Go.Proofs.YtefhngadeimklaaDoor.Q
end
section
namespace Go.Proofs.YtefhngadeimklaaDoor.Q
open Go.RowKit Go.Proofs.YtefhngadeimklaaDoorW.PrintWords Go.Proofs.YtefhngadeimklaaDoorW.PrintLast Go.Proofs.YtefhngadeimklaaDoorW.PrintMore
set_option linter.unusedVariables false
set_option linter.unusedSimpArgs false

attribute [local go_sem] max2_int min2_int max_two min_two max_three min_three max_four min_four
/-! ### vars_Decode: function 28 -/
def vars_Decode.l0 : Nat → List (S40) → ByteArray → Option ((List (S40)) × Int)
  | 0, _, _ => none
  | k + 1, x4, x5 => if x5.toList = ([] : List UInt8) then ((vars_Right.f k x4).bind fun t29001 => (if t29001 = true then (some (x4, 0)) else (some (([] : List (S40)), 15)))) else ((strings_Cut.f x5 (⟨#[0]⟩ : ByteArray)).bind fun bt29002 => ((strings_Cut.f bt29002.1 (⟨#[61]⟩ : ByteArray)).bind fun bt29005 => (if bt29002.2.2 = true then (if bt29005.2.2 = true then (if x4.length < 4398046511104 then (vars_Decode.l0 k (x4 ++ [(⟨bt29005.1, bt29005.2.1⟩ : S40)]) bt29002.2.1) else (none)) else (some (([] : List (S40)), 15))) else (some (([] : List (S40)), 15)))))
def vars_Decode.f (k : Nat) (l0 : List Int) : Option ((List (S40)) × Int) := vars_Decode.l0 k ([] : List (S40)) (strOfNums l0)
theorem vars_Decode.mono_l : ∀ k, (∀ y0 y1, LeO (vars_Decode.l0 k y0 y1) (vars_Decode.l0 (k + 1) y0 y1))
  | 0 => fun _ _ r h => by simp [vars_Decode.l0] at h
  | k + 1 => by
    have ih0 := vars_Decode.mono_l k
    · intro y0 y1
      unfold vars_Decode.l0
      repeat' first
      | (with_reducible exact ih0 _ _)
      | (with_reducible exact vars_Right.mono _ _)
      | (with_reducible exact LeO.refl _)
      | (with_reducible exact LeO.none _)
      | (with_reducible refine LeO.ite ?_ ?_)
      | (with_reducible refine LeO.bind ?_ (fun _ => ?_))
      | exact ih0 _ _
      | exact vars_Right.mono _ _
      | exact LeO.none _
      | refine LeO.ite ?_ ?_
      | refine LeO.bind ?_ (fun _ => ?_)
theorem vars_Decode.mono : ∀ a0 k, LeO (vars_Decode.f k a0) (vars_Decode.f (k + 1) a0) := by
  intro a0 k
  have ih0 := vars_Decode.mono_l k
  unfold vars_Decode.f
  repeat' first
      | (with_reducible exact ih0 _ _)
      | (with_reducible exact vars_Right.mono _ _)
      | (with_reducible exact LeO.refl _)
      | (with_reducible exact LeO.none _)
      | (with_reducible refine LeO.ite ?_ ?_)
      | (with_reducible refine LeO.bind ?_ (fun _ => ?_))
      | exact ih0 _ _
      | exact vars_Right.mono _ _
      | exact LeO.none _
      | refine LeO.ite ?_ ?_
      | refine LeO.bind ?_ (fun _ => ?_)
set_option maxHeartbeats 8000000 in
set_option maxRecDepth 100000 in
theorem vars_Decode.calls (k : Nat) (A0 : Option Addr) (c0 : Nat) (l0 : List Int) (r1 : List (S40)) (r2 : Int) (w : World) (ht : Tabs w) (hr0 : Kd.C (Kd.int .u8) w A0 l0.length l0) (hc0 : l0.length ≤ c0) (h : vars_Decode.f k l0 = some (r1, r2)) :
    Calls Tryd.prog 28 #[.slice A0 l0.length c0] w fun e w' => ∃ v0_ : Value, e = .returned (.tuple #[v0_, .int .i64 r2]) ∧ Kd.R k40 40 w' w.heap.size (fun _ => True) v0_ r1 ∧ Below w.heap.size w w' := by
  have hu40 := Tryd.underlying40
  have HR0 := Aside0.mk hr0
  have HC0 := Aside0.mk hc0
  clear hr0 hc0
  have HB := Aside0.mk (Below.refl w.heap.size w)
  have H : (vars_Decode.l0 k ([] : List (S40)) (strOfNums l0)) = some (r1, r2) := h
  clear h
  have H' := Aside0.mk H
  clear H
  have hcv2 := Kd.C_string (P := Tryd.prog) (A := A0) (c := c0) Tryd.underlying42 Tryd.underlying5 Tryd.underlying9 HR0.out
  go_enter Tryd.func28, Tryd.ntmps28
  go_wp2
  go_loopg [4, 5] k (fun kq v4 v5 w' => ∃ (x4_1 : List (S40)) (x5_1 : ByteArray), v5 = .string x5_1 ∧ Aside0 (vars_Decode.l0 kq x4_1 x5_1 = some (r1, r2)) ∧ Aside0 (kq ≤ k) ∧ Aside0 (Kd.R k40 40 w' w.heap.size (fun _ => True) v4 x4_1) ∧ Aside0 (Below w.heap.size w w'))
  case atStart => exact ⟨(([] : List (S40))), (strOfNums l0), (by first | rfl | (simp; done) | (simp [*]; done)), H', ⟨Nat.le_refl _⟩, ⟨by first | exact Kd.R_nil _ _ _ _ _ | exact Kd.N_nil _ _ _ _ _ | exact Kd.V_nil _ _ _ _ _ | exact Kd.Q_nil _ _ _ _ _ | exact Kd.S_nil _ _ _ _ _⟩, ⟨by repeat (first | (with_reducible first | exact HB.out | apply below_alloc | apply pw_below_drewN | apply below_drew1) | exact HB.out)⟩⟩
  case round =>
    clear H'
    try clear c2
    try clear p2
    try clear hcv2
    obtain ⟨x4_1, x5_1, rfl, HA, HK1, HO_4, HB⟩ := hrel
    cases gk with
    | zero => exact absurd HA.out (by simp [vars_Decode.l0])
    | succ k1 =>
      have H := HA.out
      clear HA
      simp only [vars_Decode.l0] at H
      by_cases c3 : x5_1.toList = ([] : List UInt8)
      · rw [if_pos c3] at H
        have c3b0 : (x5_1.toList == ([] : List UInt8)) = true := beq_iff_eq.mpr c3
        have c3b1 : (x5_1.toList != ([] : List UInt8)) = false := bne_eq_false_iff_eq.mpr c3
        clear c3
        replace H := Option.bind_eq_some_iff.mp H
        obtain ⟨t29001, A40, H⟩ := H
        replace H : (if t29001 = true then (some (x4_1, 0)) else (some (([] : List (S40)), 15))) = some (r1, r2) := H
        have A4 := Aside0.mk A40
        clear A40
        by_cases c5 : t29001 = true
        · subst c5
          have H1 : (some (x4_1, 0)) = some (r1, r2) := by rw [if_pos rfl] at H; exact H
          clear H
          have H := H1
          clear H1
          simp only [Option.some.injEq, Prod.mk.injEq] at H
          obtain ⟨rfl, rfl⟩ := H
          obtain ⟨Ao6, co6, eo6⟩ := Kd.R_slice HO_4.out
          subst eo6
          go_wp2_with (first | ((with_reducible refine gate_callee (f := 16) rfl ?_); refine goesL_ (some 42) rfl rfl Tryd.func16 (by kernel_rfl) rfl #[.slice Ao6 x4_1.length co6] rfl (by (try simp only [List.map_toArray, List.map_cons, List.map_nil]); first | done | rfl | (simp only [List.length_drop, List.length_take]; rfl)) ?_; (with_reducible refine (vars_Right.calls k1 _ _ x4_1 true _ (Tabs.below ht (by repeat (first | (with_reducible first | exact HB.out | apply below_alloc | apply pw_below_drewN | apply below_drew1 | refine below_set ?_ (Aside0.out (by assumption))) | exact HB.out))) ?side1 ?side2 A4.out).mono ?_); (case side1 => repeat (first | exact (Kd.R_reads' HO_4.out).2.2 | (with_reducible refine Kd.C_alloc ?_ _) | (with_reducible refine Kd.C_drewN ?_ _) | (with_reducible refine Kd.C_drew ?_))); (case side2 => exact (Kd.R_reads' HO_4.out).2.1); rintro e w7 ⟨rfl, hb⟩; refine ⟨_, rfl, ?_⟩; have n0_ := Aside0.mk (Kd.R_below (by (with_reducible repeat (first | apply Kd.R_alloc | apply Kd.R_drewN | apply Kd.R_drew)); exact HO_4.out) hb); have n1_ := Aside0.mk (below_step (by repeat (first | (with_reducible first | exact HB.out | apply below_alloc | apply pw_below_drewN | apply below_drew1) | exact HB.out)) hb); clear HO_4; clear HB; have HO_4 := n0_; have HB := n1_; clear n0_ n1_; (try clear hb); (try clear hb2); (try clear hk); (try clear hi)))
          go_ret2
          exact ⟨_, by first | rfl | (simp [errW_none, errW_some] <;> rfl) | (simp [*, errW_none, errW_some] <;> rfl), by (with_reducible repeat (first | apply Kd.R_alloc | apply Kd.R_drewN | apply Kd.R_drew)); exact HO_4.out, by repeat (first | (with_reducible first | exact HB.out | apply below_alloc | apply pw_below_drewN | apply below_drew1) | exact HB.out)⟩
        · replace c5 := Bool.eq_false_iff.mpr c5
          subst c5
          have H1 : (some (([] : List (S40)), 15)) = some (r1, r2) := by rw [if_neg (show ¬ (false = true) by decide)] at H; exact H
          clear H
          have H := H1
          clear H1
          simp only [Option.some.injEq, Prod.mk.injEq] at H
          obtain ⟨rfl, rfl⟩ := H
          obtain ⟨Ao8, co8, eo8⟩ := Kd.R_slice HO_4.out
          subst eo8
          go_wp2_with (first | ((with_reducible refine gate_callee (f := 16) rfl ?_); refine goesL_ (some 42) rfl rfl Tryd.func16 (by kernel_rfl) rfl #[.slice Ao8 x4_1.length co8] rfl (by (try simp only [List.map_toArray, List.map_cons, List.map_nil]); first | done | rfl | (simp only [List.length_drop, List.length_take]; rfl)) ?_; (with_reducible refine (vars_Right.calls k1 _ _ x4_1 false _ (Tabs.below ht (by repeat (first | (with_reducible first | exact HB.out | apply below_alloc | apply pw_below_drewN | apply below_drew1 | refine below_set ?_ (Aside0.out (by assumption))) | exact HB.out))) ?side1 ?side2 A4.out).mono ?_); (case side1 => repeat (first | exact (Kd.R_reads' HO_4.out).2.2 | (with_reducible refine Kd.C_alloc ?_ _) | (with_reducible refine Kd.C_drewN ?_ _) | (with_reducible refine Kd.C_drew ?_))); (case side2 => exact (Kd.R_reads' HO_4.out).2.1); rintro e w9 ⟨rfl, hb⟩; refine ⟨_, rfl, ?_⟩; have n0_ := Aside0.mk (Kd.R_below (by (with_reducible repeat (first | apply Kd.R_alloc | apply Kd.R_drewN | apply Kd.R_drew)); exact HO_4.out) hb); have n1_ := Aside0.mk (below_step (by repeat (first | (with_reducible first | exact HB.out | apply below_alloc | apply pw_below_drewN | apply below_drew1) | exact HB.out)) hb); clear HO_4; clear HB; have HO_4 := n0_; have HB := n1_; clear n0_ n1_; (try clear hb); (try clear hb2); (try clear hk); (try clear hi)))
          go_ret2
          exact ⟨_, by first | rfl | (simp [errW_none, errW_some] <;> rfl) | (simp [*, errW_none, errW_some] <;> rfl), by first | exact Kd.R_nil _ _ _ _ _ | exact Kd.N_nil _ _ _ _ _ | exact Kd.V_nil _ _ _ _ _ | exact Kd.Q_nil _ _ _ _ _ | exact Kd.S_nil _ _ _ _ _, by repeat (first | (with_reducible first | exact HB.out | apply below_alloc | apply pw_below_drewN | apply below_drew1) | exact HB.out)⟩
      · rw [if_neg c3] at H
        have c3b0 : (x5_1.toList == ([] : List UInt8)) = false := beq_eq_false_iff_ne.mpr c3
        have c3b1 : (x5_1.toList != ([] : List UInt8)) = true := bne_iff_ne.mpr c3
        replace H := Option.bind_eq_some_iff.mp H
        obtain ⟨⟨t29002, t29003, t29004⟩, A100, H⟩ := H
        replace H : ((strings_Cut.f t29002 (⟨#[61]⟩ : ByteArray)).bind fun bt29005 => (if t29004 = true then (if bt29005.2.2 = true then (if x4_1.length < 4398046511104 then (vars_Decode.l0 k1 (x4_1 ++ [(⟨bt29005.1, bt29005.2.1⟩ : S40)]) t29003) else (none)) else (some (([] : List (S40)), 15))) else (some (([] : List (S40)), 15)))) = some (r1, r2) := H
        have A10 := Aside0.mk A100
        clear A100
        replace H := Option.bind_eq_some_iff.mp H
        obtain ⟨⟨t29005, t29006, t29007⟩, A110, H⟩ := H
        replace H : (if t29004 = true then (if t29007 = true then (if x4_1.length < 4398046511104 then (vars_Decode.l0 k1 (x4_1 ++ [(⟨t29005, t29006⟩ : S40)]) t29003) else (none)) else (some (([] : List (S40)), 15))) else (some (([] : List (S40)), 15))) = some (r1, r2) := H
        have A11 := Aside0.mk A110
        clear A110
        by_cases c12 : t29004 = true
        · subst c12
          have H1 : (if t29007 = true then (if x4_1.length < 4398046511104 then (vars_Decode.l0 k1 (x4_1 ++ [(⟨t29005, t29006⟩ : S40)]) t29003) else (none)) else (some (([] : List (S40)), 15))) = some (r1, r2) := by rw [if_pos rfl] at H; exact H
          clear H
          have H := H1
          clear H1
          by_cases c13 : t29007 = true
          · subst c13
            have H1 : (if x4_1.length < 4398046511104 then (vars_Decode.l0 k1 (x4_1 ++ [(⟨t29005, t29006⟩ : S40)]) t29003) else (none)) = some (r1, r2) := by rw [if_pos rfl] at H; exact H
            clear H
            have H := H1
            clear H1
            by_cases c14 : x4_1.length < 4398046511104
            · rw [if_pos c14] at H
              have LMc14 := Aside0.mk c14
              clear c14
              obtain ⟨y29008, hy29008⟩ : ∃ y_ : List (S40), y_ = (x4_1 ++ [(⟨t29005, t29006⟩ : S40)]) := ⟨_, rfl⟩
              replace H : (vars_Decode.l0 k1 y29008 t29003) = some (r1, r2) := by first | (rw [hy29008]; with_reducible exact H) | (have H2_ := (Option.bind_some _ _).symm.trans H; rw [hy29008]; with_reducible exact H2_) | (have H2_ := (Option.bind_some _ _).symm.trans H; with_reducible exact H2_) | with_reducible exact H | (rw [hy29008]; exact H) | exact H
              have Ny29008 := Aside0.mk hy29008
              clear hy29008
              have H' := Aside0.mk H
              clear H
              go_wp2_with (first | ((with_reducible refine gate_callee (f := 52) rfl ?_); refine goesL_ (some 18) rfl rfl Tryd.func52 (by kernel_rfl) rfl #[.string x5_1, .string (⟨#[0]⟩ : ByteArray)] rfl (by (try simp only [List.map_toArray, List.map_cons, List.map_nil]); first | done | rfl | (simp only [List.length_drop, List.length_take]; rfl)) ?_; (with_reducible refine (strings_Cut.calls x5_1 (⟨#[0]⟩ : ByteArray) t29002 t29003 true _ A10.out).mono ?_); rintro e w15 ⟨rfl, hb⟩; refine ⟨_, rfl, ?_⟩; have n0_ := Aside0.mk (Kd.R_below (by (with_reducible repeat (first | apply Kd.R_alloc | apply Kd.R_drewN | apply Kd.R_drew)); exact HO_4.out) hb); have n1_ := Aside0.mk (below_step (by repeat (first | (with_reducible first | exact HB.out | apply below_alloc | apply pw_below_drewN | apply below_drew1) | exact HB.out)) hb); clear HO_4; clear HB; have HO_4 := n0_; have HB := n1_; clear n0_ n1_; (try clear hb); (try clear hb2); (try clear hk); (try clear hi)) | ((with_reducible refine gate_callee (f := 52) rfl ?_); refine goesL_ (some 24) rfl rfl Tryd.func52 (by kernel_rfl) rfl #[.string t29002, .string (⟨#[61]⟩ : ByteArray)] rfl (by (try simp only [List.map_toArray, List.map_cons, List.map_nil]); first | done | rfl | (simp only [List.length_drop, List.length_take]; rfl)) ?_; (with_reducible refine (strings_Cut.calls t29002 (⟨#[61]⟩ : ByteArray) t29005 t29006 true _ A11.out).mono ?_); rintro e w16 ⟨rfl, hb⟩; refine ⟨_, rfl, ?_⟩; have n0_ := Aside0.mk (Kd.R_below (by (with_reducible repeat (first | apply Kd.R_alloc | apply Kd.R_drewN | apply Kd.R_drew)); exact HO_4.out) hb); have n1_ := Aside0.mk (below_step (by repeat (first | (with_reducible first | exact HB.out | apply below_alloc | apply pw_below_drewN | apply below_drew1) | exact HB.out)) hb); clear HO_4; clear HB; have HO_4 := n0_; have HB := n1_; clear n0_ n1_; (try clear hb); (try clear hb2); (try clear hk); (try clear hi)) | ((with_reducible refine gate_builtin (b := .append) (xs := #[.tmp 34, .tmp 38]) rfl ?_); at_builtin; refine Kd.R_append k40 (w0 := w) w.heap.size rfl (.tmp 34) (.tmp 38) 22 40 (.agg #[(.string ⟨#[]⟩), (.string ⟨#[]⟩)]) 32 rfl Tryd.underlying22 info40 rfl (by decide) (by omega) u4 x4_1 (⟨t29005, t29006⟩ : S40) [.string t29005, .string t29006] (fun _ => True) (fun _ => False) rfl rfl ?aP (fun _ hk => hk.elim) ?aF ?aO ?aB ?aS ?aL ?_; (case aP => exact k40_mkM _ _ _ (⟨t29005, t29006⟩ : S40)); (case aB => exact (by repeat (first | (with_reducible first | exact HB.out | apply below_alloc | apply pw_below_drewN | apply below_drew1) | exact HB.out))); (case aF => exact (fun _ _ => trivial)); (case aO => exact (by (with_reducible repeat (first | apply Kd.R_alloc | apply Kd.R_drewN | apply Kd.R_drew)); exact HO_4.out)); (case aS => exact (below_size (by repeat (first | (with_reducible first | exact HB.out | apply below_alloc | apply pw_below_drewN | apply below_drew1) | exact HB.out)))); (case aL => have := LMc14.out; omega); intro v29009 w17 ho hb hg hat; rw [← Ny29008.out] at ho; have n0_ := Aside0.mk (hb); have n1_ := Aside0.mk (ho); clear HB; clear HO_4; have HB := n0_; have HO29010 := n1_; clear n0_ n1_; clear ho hb hg hat))
              go_roundg k1
              case measure => have := HK1.out; omega
              case rel => exact ⟨(y29008), (t29003), (by first | rfl | (simp; done) | (simp [*]; done)), H', ⟨by have := HK1.out; omega⟩, ⟨by (with_reducible repeat (first | apply Kd.R_alloc | apply Kd.R_drewN | apply Kd.R_drew)); exact HO29010.out⟩, ⟨by repeat (first | (with_reducible first | exact HB.out | apply below_alloc | apply pw_below_drewN | apply below_drew1) | exact HB.out)⟩⟩
            · rw [if_neg c14] at H
              exact absurd H (by simp)
          · replace c13 := Bool.eq_false_iff.mpr c13
            subst c13
            have H1 : (some (([] : List (S40)), 15)) = some (r1, r2) := by rw [if_neg (show ¬ (false = true) by decide)] at H; exact H
            clear H
            have H := H1
            clear H1
            simp only [Option.some.injEq, Prod.mk.injEq] at H
            obtain ⟨rfl, rfl⟩ := H
            go_wp2_with (first | ((with_reducible refine gate_callee (f := 52) rfl ?_); refine goesL_ (some 18) rfl rfl Tryd.func52 (by kernel_rfl) rfl #[.string x5_1, .string (⟨#[0]⟩ : ByteArray)] rfl (by (try simp only [List.map_toArray, List.map_cons, List.map_nil]); first | done | rfl | (simp only [List.length_drop, List.length_take]; rfl)) ?_; (with_reducible refine (strings_Cut.calls x5_1 (⟨#[0]⟩ : ByteArray) t29002 t29003 true _ A10.out).mono ?_); rintro e w18 ⟨rfl, hb⟩; refine ⟨_, rfl, ?_⟩; have n0_ := Aside0.mk (Kd.R_below (by (with_reducible repeat (first | apply Kd.R_alloc | apply Kd.R_drewN | apply Kd.R_drew)); exact HO_4.out) hb); have n1_ := Aside0.mk (below_step (by repeat (first | (with_reducible first | exact HB.out | apply below_alloc | apply pw_below_drewN | apply below_drew1) | exact HB.out)) hb); clear HO_4; clear HB; have HO_4 := n0_; have HB := n1_; clear n0_ n1_; (try clear hb); (try clear hb2); (try clear hk); (try clear hi)) | ((with_reducible refine gate_callee (f := 52) rfl ?_); refine goesL_ (some 24) rfl rfl Tryd.func52 (by kernel_rfl) rfl #[.string t29002, .string (⟨#[61]⟩ : ByteArray)] rfl (by (try simp only [List.map_toArray, List.map_cons, List.map_nil]); first | done | rfl | (simp only [List.length_drop, List.length_take]; rfl)) ?_; (with_reducible refine (strings_Cut.calls t29002 (⟨#[61]⟩ : ByteArray) t29005 t29006 false _ A11.out).mono ?_); rintro e w19 ⟨rfl, hb⟩; refine ⟨_, rfl, ?_⟩; have n0_ := Aside0.mk (Kd.R_below (by (with_reducible repeat (first | apply Kd.R_alloc | apply Kd.R_drewN | apply Kd.R_drew)); exact HO_4.out) hb); have n1_ := Aside0.mk (below_step (by repeat (first | (with_reducible first | exact HB.out | apply below_alloc | apply pw_below_drewN | apply below_drew1) | exact HB.out)) hb); clear HO_4; clear HB; have HO_4 := n0_; have HB := n1_; clear n0_ n1_; (try clear hb); (try clear hb2); (try clear hk); (try clear hi)))
            go_ret2
            exact ⟨_, by first | rfl | (simp [errW_none, errW_some] <;> rfl) | (simp [*, errW_none, errW_some] <;> rfl), by first | exact Kd.R_nil _ _ _ _ _ | exact Kd.N_nil _ _ _ _ _ | exact Kd.V_nil _ _ _ _ _ | exact Kd.Q_nil _ _ _ _ _ | exact Kd.S_nil _ _ _ _ _, by repeat (first | (with_reducible first | exact HB.out | apply below_alloc | apply pw_below_drewN | apply below_drew1) | exact HB.out)⟩
        · replace c12 := Bool.eq_false_iff.mpr c12
          subst c12
          have H1 : (some (([] : List (S40)), 15)) = some (r1, r2) := by rw [if_neg (show ¬ (false = true) by decide)] at H; exact H
          clear H
          have H := H1
          clear H1
          simp only [Option.some.injEq, Prod.mk.injEq] at H
          obtain ⟨rfl, rfl⟩ := H
          go_wp2_with (first | ((with_reducible refine gate_callee (f := 52) rfl ?_); refine goesL_ (some 18) rfl rfl Tryd.func52 (by kernel_rfl) rfl #[.string x5_1, .string (⟨#[0]⟩ : ByteArray)] rfl (by (try simp only [List.map_toArray, List.map_cons, List.map_nil]); first | done | rfl | (simp only [List.length_drop, List.length_take]; rfl)) ?_; (with_reducible refine (strings_Cut.calls x5_1 (⟨#[0]⟩ : ByteArray) t29002 t29003 false _ A10.out).mono ?_); rintro e w20 ⟨rfl, hb⟩; refine ⟨_, rfl, ?_⟩; have n0_ := Aside0.mk (Kd.R_below (by (with_reducible repeat (first | apply Kd.R_alloc | apply Kd.R_drewN | apply Kd.R_drew)); exact HO_4.out) hb); have n1_ := Aside0.mk (below_step (by repeat (first | (with_reducible first | exact HB.out | apply below_alloc | apply pw_below_drewN | apply below_drew1) | exact HB.out)) hb); clear HO_4; clear HB; have HO_4 := n0_; have HB := n1_; clear n0_ n1_; (try clear hb); (try clear hb2); (try clear hk); (try clear hi)) | ((with_reducible refine gate_callee (f := 52) rfl ?_); refine goesL_ (some 24) rfl rfl Tryd.func52 (by kernel_rfl) rfl #[.string t29002, .string (⟨#[61]⟩ : ByteArray)] rfl (by (try simp only [List.map_toArray, List.map_cons, List.map_nil]); first | done | rfl | (simp only [List.length_drop, List.length_take]; rfl)) ?_; (with_reducible refine (strings_Cut.calls t29002 (⟨#[61]⟩ : ByteArray) t29005 t29006 t29007 _ A11.out).mono ?_); rintro e w21 ⟨rfl, hb⟩; refine ⟨_, rfl, ?_⟩; have n0_ := Aside0.mk (Kd.R_below (by (with_reducible repeat (first | apply Kd.R_alloc | apply Kd.R_drewN | apply Kd.R_drew)); exact HO_4.out) hb); have n1_ := Aside0.mk (below_step (by repeat (first | (with_reducible first | exact HB.out | apply below_alloc | apply pw_below_drewN | apply below_drew1) | exact HB.out)) hb); clear HO_4; clear HB; have HO_4 := n0_; have HB := n1_; clear n0_ n1_; (try clear hb); (try clear hb2); (try clear hk); (try clear hi)))
          go_ret2
          exact ⟨_, by first | rfl | (simp [errW_none, errW_some] <;> rfl) | (simp [*, errW_none, errW_some] <;> rfl), by first | exact Kd.R_nil _ _ _ _ _ | exact Kd.N_nil _ _ _ _ _ | exact Kd.V_nil _ _ _ _ _ | exact Kd.Q_nil _ _ _ _ _ | exact Kd.S_nil _ _ _ _ _, by repeat (first | (with_reducible first | exact HB.out | apply below_alloc | apply pw_below_drewN | apply below_drew1) | exact HB.out)⟩

end Go.Proofs.YtefhngadeimklaaDoor.Q
end
