/- Contracts of Go functions and plain facts, of several texts, one behind the other; no condition. -/
import Derived.Test.YtefhngadeimklaaDoorMVarsGets1
import Derived.Test.YtefhngadeimklaaDoorMVarsGets2
section
namespace Go.Proofs.YtefhngadeimklaaDoor.Q
open Go.RowKit Go.Proofs.YtefhngadeimklaaDoorW.PrintWords Go.Proofs.YtefhngadeimklaaDoorW.PrintLast Go.Proofs.YtefhngadeimklaaDoorW.PrintMore
set_option linter.unusedVariables false
set_option linter.unusedSimpArgs false

attribute [local go_sem] max2_int min2_int max_two min_two max_three min_three max_four min_four
/-! ### tinderref19_Form: function 18 -/
def tinderref19_Form.l0 : Nat → ByteArray → Int → Option (ByteArray × Int)
  | 0, _, _ => none
  | k + 1, x1, x14 => if x14 < (x1.size : Int) then (if 0 ≤ x14 then (if (bt x1 x14) < 32 then (some ((⟨#[]⟩ : ByteArray), 27)) else (if (bt x1 x14) > 126 then (some ((⟨#[]⟩ : ByteArray), 27)) else (tinderref19_Form.l0 k x1 (wrap64 (x14 + 1))))) else (none)) else (if (x1.size : Int) ≤ 128 then (some (x1, 0)) else (some ((⟨#[]⟩ : ByteArray), 27)))
def tinderref19_Form.f (k : Nat) (a0 : ByteArray) (a1 : ByteArray) : Option (ByteArray × Int) := (tinderref19_find.f k a0).bind fun t19001 => (if t19001 < 0 then (some ((⟨#[]⟩ : ByteArray), 2)) else ((tinderref19_Variable.f t19001).bind fun bt19002 => (if bt19002.2.1 = 98 then (if a1.toList = ([116, 114, 117, 101] : List UInt8) then (some (a1, 0)) else (if a1.toList = ([102, 97, 108, 115, 101] : List UInt8) then (some (a1, 0)) else (some ((⟨#[]⟩ : ByteArray), 27)))) else (if bt19002.2.1 = 110 then ((tinderref02_Parse.f k a1 10).bind fun bt19005 => (if bt19005.2 = 0 then ((tinderref02_Show.f bt19005.1 10).bind fun bt19007 => (some (bt19007.1, 0))) else (some ((⟨#[]⟩ : ByteArray), 27)))) else (tinderref19_Form.l0 k a1 0)))))
theorem tinderref19_Form.mono_l : ∀ k, (∀ y0 y1, LeO (tinderref19_Form.l0 k y0 y1) (tinderref19_Form.l0 (k + 1) y0 y1))
  | 0 => fun _ _ r h => by simp [tinderref19_Form.l0] at h
  | k + 1 => by
    have ih0 := tinderref19_Form.mono_l k
    · intro y0 y1
      unfold tinderref19_Form.l0
      repeat' first
      | (with_reducible exact ih0 _ _)
      | (with_reducible exact tinderref02_Parse.mono _ _ _)
      | (with_reducible exact tinderref19_find.mono _ _)
      | (with_reducible exact LeO.refl _)
      | (with_reducible exact LeO.none _)
      | (with_reducible refine LeO.ite ?_ ?_)
      | (with_reducible refine LeO.bind ?_ (fun _ => ?_))
      | exact ih0 _ _
      | exact tinderref02_Parse.mono _ _ _
      | exact tinderref19_find.mono _ _
      | exact LeO.none _
      | refine LeO.ite ?_ ?_
      | refine LeO.bind ?_ (fun _ => ?_)
theorem tinderref19_Form.mono : ∀ a0 a1 k, LeO (tinderref19_Form.f k a0 a1) (tinderref19_Form.f (k + 1) a0 a1) := by
  intro a0 a1 k
  have ih0 := tinderref19_Form.mono_l k
  unfold tinderref19_Form.f
  repeat' first
      | (with_reducible exact ih0 _ _)
      | (with_reducible exact tinderref02_Parse.mono _ _ _)
      | (with_reducible exact tinderref19_find.mono _ _)
      | (with_reducible exact LeO.refl _)
      | (with_reducible exact LeO.none _)
      | (with_reducible refine LeO.ite ?_ ?_)
      | (with_reducible refine LeO.bind ?_ (fun _ => ?_))
      | exact ih0 _ _
      | exact tinderref02_Parse.mono _ _ _
      | exact tinderref19_find.mono _ _
      | exact LeO.none _
      | refine LeO.ite ?_ ?_
      | refine LeO.bind ?_ (fun _ => ?_)
set_option maxHeartbeats 8000000 in
set_option maxRecDepth 100000 in
theorem tinderref19_Form.calls (k : Nat) (a0 : ByteArray) (a1 : ByteArray) (r1 : ByteArray) (r2 : Int) (w : World) (h : tinderref19_Form.f k a0 a1 = some (r1, r2)) :
    Calls Tryd.prog 18 #[.string a0, .string a1] w fun e w' => e = .returned (.tuple #[.string r1, .int .i64 r2]) ∧ Below w.heap.size w w' := by
  have HB := Aside0.mk (Below.refl w.heap.size w)
  have H : ((tinderref19_find.f k a0).bind fun t19001 => (if t19001 < 0 then (some ((⟨#[]⟩ : ByteArray), 2)) else ((tinderref19_Variable.f t19001).bind fun bt19002 => (if bt19002.2.1 = 98 then (if a1.toList = ([116, 114, 117, 101] : List UInt8) then (some (a1, 0)) else (if a1.toList = ([102, 97, 108, 115, 101] : List UInt8) then (some (a1, 0)) else (some ((⟨#[]⟩ : ByteArray), 27)))) else (if bt19002.2.1 = 110 then ((tinderref02_Parse.f k a1 10).bind fun bt19005 => (if bt19005.2 = 0 then ((tinderref02_Show.f bt19005.1 10).bind fun bt19007 => (some (bt19007.1, 0))) else (some ((⟨#[]⟩ : ByteArray), 27)))) else (tinderref19_Form.l0 k a1 0)))))) = some (r1, r2) := h
  clear h
  replace H := Option.bind_eq_some_iff.mp H
  obtain ⟨t19001, A30, H⟩ := H
  replace H : (if t19001 < 0 then (some ((⟨#[]⟩ : ByteArray), 2)) else ((tinderref19_Variable.f t19001).bind fun bt19002 => (if bt19002.2.1 = 98 then (if a1.toList = ([116, 114, 117, 101] : List UInt8) then (some (a1, 0)) else (if a1.toList = ([102, 97, 108, 115, 101] : List UInt8) then (some (a1, 0)) else (some ((⟨#[]⟩ : ByteArray), 27)))) else (if bt19002.2.1 = 110 then ((tinderref02_Parse.f k a1 10).bind fun bt19005 => (if bt19005.2 = 0 then ((tinderref02_Show.f bt19005.1 10).bind fun bt19007 => (some (bt19007.1, 0))) else (some ((⟨#[]⟩ : ByteArray), 27)))) else (tinderref19_Form.l0 k a1 0))))) = some (r1, r2) := H
  have A3 := Aside0.mk A30
  clear A30
  by_cases c4 : t19001 < 0
  · rw [if_pos c4] at H
    have c4b0 : decide (t19001 < 0) = true := decide_eq_true c4
    clear c4
    simp only [Option.some.injEq, Prod.mk.injEq] at H
    obtain ⟨rfl, rfl⟩ := H
    go_enter Tryd.func18, Tryd.ntmps18
    go_wp2_with (first | ((with_reducible refine gate_callee (f := 46) rfl ?_); refine goesL_ (some 16) rfl rfl Tryd.func46 (by kernel_rfl) rfl #[.string a0] rfl (by (try simp only [List.map_toArray, List.map_cons, List.map_nil]); first | done | rfl | (simp only [List.length_drop, List.length_take]; rfl)) ?_; (with_reducible refine (tinderref19_find.calls k a0 t19001 _ A3.out).mono ?_); rintro e w' ⟨rfl, ⟨nd, rfl⟩⟩; refine ⟨_, rfl, ?_⟩))
    go_ret2
    exact ⟨by first | rfl | (simp [errW_none, errW_some] <;> rfl) | (simp [*, errW_none, errW_some] <;> rfl), by repeat (first | (with_reducible first | exact HB.out | apply below_alloc | apply pw_below_drewN | apply below_drew1) | exact HB.out)⟩
  · rw [if_neg c4] at H
    have c4b0 : decide (t19001 < 0) = false := decide_eq_false c4
    clear c4
    replace H := Option.bind_eq_some_iff.mp H
    obtain ⟨⟨t19002, t19003, t19004⟩, A50, H⟩ := H
    replace H : (if t19003 = 98 then (if a1.toList = ([116, 114, 117, 101] : List UInt8) then (some (a1, 0)) else (if a1.toList = ([102, 97, 108, 115, 101] : List UInt8) then (some (a1, 0)) else (some ((⟨#[]⟩ : ByteArray), 27)))) else (if t19003 = 110 then ((tinderref02_Parse.f k a1 10).bind fun bt19005 => (if bt19005.2 = 0 then ((tinderref02_Show.f bt19005.1 10).bind fun bt19007 => (some (bt19007.1, 0))) else (some ((⟨#[]⟩ : ByteArray), 27)))) else (tinderref19_Form.l0 k a1 0))) = some (r1, r2) := H
    have A5 := Aside0.mk A50
    clear A50
    by_cases c6 : t19003 = 98
    · rw [if_pos c6] at H
      have c6b0 : (t19003 == 98) = true := beq_iff_eq.mpr c6
      have c6b1 : (t19003 != 98) = false := bne_eq_false_iff_eq.mpr c6
      clear c6
      by_cases c7 : a1.toList = ([116, 114, 117, 101] : List UInt8)
      · rw [if_pos c7] at H
        have c7b0 : (a1.toList == ([116, 114, 117, 101] : List UInt8)) = true := beq_iff_eq.mpr c7
        have c7b1 : (a1.toList != ([116, 114, 117, 101] : List UInt8)) = false := bne_eq_false_iff_eq.mpr c7
        clear c7
        simp only [Option.some.injEq, Prod.mk.injEq] at H
        obtain ⟨rfl, rfl⟩ := H
        go_enter Tryd.func18, Tryd.ntmps18
        go_wp2_with (first | ((with_reducible refine gate_callee (f := 46) rfl ?_); refine goesL_ (some 16) rfl rfl Tryd.func46 (by kernel_rfl) rfl #[.string a0] rfl (by (try simp only [List.map_toArray, List.map_cons, List.map_nil]); first | done | rfl | (simp only [List.length_drop, List.length_take]; rfl)) ?_; (with_reducible refine (tinderref19_find.calls k a0 t19001 _ A3.out).mono ?_); rintro e w' ⟨rfl, ⟨nd, rfl⟩⟩; refine ⟨_, rfl, ?_⟩) | ((with_reducible refine gate_callee (f := 47) rfl ?_); refine goesL_ (some 21) rfl rfl Tryd.func47 (by kernel_rfl) rfl #[.int .i64 t19001] rfl (by (try simp only [List.map_toArray, List.map_cons, List.map_nil]); first | done | rfl | (simp only [List.length_drop, List.length_take]; rfl)) ?_; (with_reducible refine (tinderref19_Variable.calls t19001 t19002 t19003 t19004 _ A5.out).mono ?_); rintro e w' ⟨rfl, ⟨nd, rfl⟩⟩; refine ⟨_, rfl, ?_⟩))
        go_ret2
        exact ⟨by first | rfl | (simp [errW_none, errW_some] <;> rfl) | (simp [*, errW_none, errW_some] <;> rfl), by repeat (first | (with_reducible first | exact HB.out | apply below_alloc | apply pw_below_drewN | apply below_drew1) | exact HB.out)⟩
      · rw [if_neg c7] at H
        have c7b0 : (a1.toList == ([116, 114, 117, 101] : List UInt8)) = false := beq_eq_false_iff_ne.mpr c7
        have c7b1 : (a1.toList != ([116, 114, 117, 101] : List UInt8)) = true := bne_iff_ne.mpr c7
        by_cases c8 : a1.toList = ([102, 97, 108, 115, 101] : List UInt8)
        · rw [if_pos c8] at H
          have c8b0 : (a1.toList == ([102, 97, 108, 115, 101] : List UInt8)) = true := beq_iff_eq.mpr c8
          have c8b1 : (a1.toList != ([102, 97, 108, 115, 101] : List UInt8)) = false := bne_eq_false_iff_eq.mpr c8
          clear c8
          simp only [Option.some.injEq, Prod.mk.injEq] at H
          obtain ⟨rfl, rfl⟩ := H
          go_enter Tryd.func18, Tryd.ntmps18
          go_wp2_with (first | ((with_reducible refine gate_callee (f := 46) rfl ?_); refine goesL_ (some 16) rfl rfl Tryd.func46 (by kernel_rfl) rfl #[.string a0] rfl (by (try simp only [List.map_toArray, List.map_cons, List.map_nil]); first | done | rfl | (simp only [List.length_drop, List.length_take]; rfl)) ?_; (with_reducible refine (tinderref19_find.calls k a0 t19001 _ A3.out).mono ?_); rintro e w' ⟨rfl, ⟨nd, rfl⟩⟩; refine ⟨_, rfl, ?_⟩) | ((with_reducible refine gate_callee (f := 47) rfl ?_); refine goesL_ (some 21) rfl rfl Tryd.func47 (by kernel_rfl) rfl #[.int .i64 t19001] rfl (by (try simp only [List.map_toArray, List.map_cons, List.map_nil]); first | done | rfl | (simp only [List.length_drop, List.length_take]; rfl)) ?_; (with_reducible refine (tinderref19_Variable.calls t19001 t19002 t19003 t19004 _ A5.out).mono ?_); rintro e w' ⟨rfl, ⟨nd, rfl⟩⟩; refine ⟨_, rfl, ?_⟩))
          go_ret2
          exact ⟨by first | rfl | (simp [errW_none, errW_some] <;> rfl) | (simp [*, errW_none, errW_some] <;> rfl), by repeat (first | (with_reducible first | exact HB.out | apply below_alloc | apply pw_below_drewN | apply below_drew1) | exact HB.out)⟩
        · rw [if_neg c8] at H
          have c8b0 : (a1.toList == ([102, 97, 108, 115, 101] : List UInt8)) = false := beq_eq_false_iff_ne.mpr c8
          have c8b1 : (a1.toList != ([102, 97, 108, 115, 101] : List UInt8)) = true := bne_iff_ne.mpr c8
          simp only [Option.some.injEq, Prod.mk.injEq] at H
          obtain ⟨rfl, rfl⟩ := H
          go_enter Tryd.func18, Tryd.ntmps18
          go_wp2_with (first | ((with_reducible refine gate_callee (f := 46) rfl ?_); refine goesL_ (some 16) rfl rfl Tryd.func46 (by kernel_rfl) rfl #[.string a0] rfl (by (try simp only [List.map_toArray, List.map_cons, List.map_nil]); first | done | rfl | (simp only [List.length_drop, List.length_take]; rfl)) ?_; (with_reducible refine (tinderref19_find.calls k a0 t19001 _ A3.out).mono ?_); rintro e w' ⟨rfl, ⟨nd, rfl⟩⟩; refine ⟨_, rfl, ?_⟩) | ((with_reducible refine gate_callee (f := 47) rfl ?_); refine goesL_ (some 21) rfl rfl Tryd.func47 (by kernel_rfl) rfl #[.int .i64 t19001] rfl (by (try simp only [List.map_toArray, List.map_cons, List.map_nil]); first | done | rfl | (simp only [List.length_drop, List.length_take]; rfl)) ?_; (with_reducible refine (tinderref19_Variable.calls t19001 t19002 t19003 t19004 _ A5.out).mono ?_); rintro e w' ⟨rfl, ⟨nd, rfl⟩⟩; refine ⟨_, rfl, ?_⟩))
          go_ret2
          exact ⟨by first | rfl | (simp [errW_none, errW_some] <;> rfl) | (simp [*, errW_none, errW_some] <;> rfl), by repeat (first | (with_reducible first | exact HB.out | apply below_alloc | apply pw_below_drewN | apply below_drew1) | exact HB.out)⟩
    · rw [if_neg c6] at H
      have c6b0 : (t19003 == 98) = false := beq_eq_false_iff_ne.mpr c6
      have c6b1 : (t19003 != 98) = true := bne_iff_ne.mpr c6
      by_cases c9 : t19003 = 110
      · rw [if_pos c9] at H
        have c9b0 : (t19003 == 110) = true := beq_iff_eq.mpr c9
        have c9b1 : (t19003 != 110) = false := bne_eq_false_iff_eq.mpr c9
        clear c9
        replace H := Option.bind_eq_some_iff.mp H
        obtain ⟨⟨t19005, t19006⟩, A100, H⟩ := H
        replace H : (if t19006 = 0 then ((tinderref02_Show.f t19005 10).bind fun bt19007 => (some (bt19007.1, 0))) else (some ((⟨#[]⟩ : ByteArray), 27))) = some (r1, r2) := H
        have A10 := Aside0.mk A100
        clear A100
        by_cases c11 : t19006 = 0
        · rw [if_pos c11] at H
          have c11b0 : (t19006 == 0) = true := beq_iff_eq.mpr c11
          have c11b1 : (t19006 != 0) = false := bne_eq_false_iff_eq.mpr c11
          clear c11
          replace H := Option.bind_eq_some_iff.mp H
          obtain ⟨⟨t19007, t19008⟩, A120, H⟩ := H
          replace H : (some (t19007, 0)) = some (r1, r2) := H
          have A12 := Aside0.mk A120
          clear A120
          simp only [Option.some.injEq, Prod.mk.injEq] at H
          obtain ⟨rfl, rfl⟩ := H
          go_enter Tryd.func18, Tryd.ntmps18
          go_wp2_with (first | ((with_reducible refine gate_callee (f := 46) rfl ?_); refine goesL_ (some 16) rfl rfl Tryd.func46 (by kernel_rfl) rfl #[.string a0] rfl (by (try simp only [List.map_toArray, List.map_cons, List.map_nil]); first | done | rfl | (simp only [List.length_drop, List.length_take]; rfl)) ?_; (with_reducible refine (tinderref19_find.calls k a0 t19001 _ A3.out).mono ?_); rintro e w' ⟨rfl, ⟨nd, rfl⟩⟩; refine ⟨_, rfl, ?_⟩) | ((with_reducible refine gate_callee (f := 47) rfl ?_); refine goesL_ (some 21) rfl rfl Tryd.func47 (by kernel_rfl) rfl #[.int .i64 t19001] rfl (by (try simp only [List.map_toArray, List.map_cons, List.map_nil]); first | done | rfl | (simp only [List.length_drop, List.length_take]; rfl)) ?_; (with_reducible refine (tinderref19_Variable.calls t19001 t19002 t19003 t19004 _ A5.out).mono ?_); rintro e w' ⟨rfl, ⟨nd, rfl⟩⟩; refine ⟨_, rfl, ?_⟩) | ((with_reducible refine gate_callee (f := 48) rfl ?_); refine goesL_ (some 59) rfl rfl Tryd.func48 (by kernel_rfl) rfl #[.string a1, .int .u32 10] rfl (by (try simp only [List.map_toArray, List.map_cons, List.map_nil]); first | done | rfl | (simp only [List.length_drop, List.length_take]; rfl)) ?_; (with_reducible refine (tinderref02_Parse.calls k a1 10 t19005 t19006 _ A10.out).mono ?_); rintro e w' ⟨rfl, ⟨nd, rfl⟩⟩; refine ⟨_, rfl, ?_⟩) | ((with_reducible refine gate_callee (f := 49) rfl ?_); refine goesL_ (some 66) rfl rfl Tryd.func49 (by kernel_rfl) rfl #[.int .u32 t19005, .int .u32 10] rfl (by (try simp only [List.map_toArray, List.map_cons, List.map_nil]); first | done | rfl | (simp only [List.length_drop, List.length_take]; rfl)) ?_; (with_reducible refine (tinderref02_Show.calls t19005 10 t19007 t19008 _ A12.out).mono ?_); rintro e w13 ⟨rfl, hb⟩; refine ⟨_, rfl, ?_⟩; have n0_ := Aside0.mk (below_step (by repeat (first | (with_reducible first | exact HB.out | apply below_alloc | apply pw_below_drewN | apply below_drew1) | exact HB.out)) hb); clear HB; have HB := n0_; clear n0_; (try clear hb); (try clear hb2); (try clear hk); (try clear hi)))
          go_ret2
          exact ⟨by first | rfl | (simp [errW_none, errW_some] <;> rfl) | (simp [*, errW_none, errW_some] <;> rfl), by repeat (first | (with_reducible first | exact HB.out | apply below_alloc | apply pw_below_drewN | apply below_drew1) | exact HB.out)⟩
        · rw [if_neg c11] at H
          have c11b0 : (t19006 == 0) = false := beq_eq_false_iff_ne.mpr c11
          have c11b1 : (t19006 != 0) = true := bne_iff_ne.mpr c11
          simp only [Option.some.injEq, Prod.mk.injEq] at H
          obtain ⟨rfl, rfl⟩ := H
          go_enter Tryd.func18, Tryd.ntmps18
          go_wp2_with (first | ((with_reducible refine gate_callee (f := 46) rfl ?_); refine goesL_ (some 16) rfl rfl Tryd.func46 (by kernel_rfl) rfl #[.string a0] rfl (by (try simp only [List.map_toArray, List.map_cons, List.map_nil]); first | done | rfl | (simp only [List.length_drop, List.length_take]; rfl)) ?_; (with_reducible refine (tinderref19_find.calls k a0 t19001 _ A3.out).mono ?_); rintro e w' ⟨rfl, ⟨nd, rfl⟩⟩; refine ⟨_, rfl, ?_⟩) | ((with_reducible refine gate_callee (f := 47) rfl ?_); refine goesL_ (some 21) rfl rfl Tryd.func47 (by kernel_rfl) rfl #[.int .i64 t19001] rfl (by (try simp only [List.map_toArray, List.map_cons, List.map_nil]); first | done | rfl | (simp only [List.length_drop, List.length_take]; rfl)) ?_; (with_reducible refine (tinderref19_Variable.calls t19001 t19002 t19003 t19004 _ A5.out).mono ?_); rintro e w' ⟨rfl, ⟨nd, rfl⟩⟩; refine ⟨_, rfl, ?_⟩) | ((with_reducible refine gate_callee (f := 48) rfl ?_); refine goesL_ (some 59) rfl rfl Tryd.func48 (by kernel_rfl) rfl #[.string a1, .int .u32 10] rfl (by (try simp only [List.map_toArray, List.map_cons, List.map_nil]); first | done | rfl | (simp only [List.length_drop, List.length_take]; rfl)) ?_; (with_reducible refine (tinderref02_Parse.calls k a1 10 t19005 t19006 _ A10.out).mono ?_); rintro e w' ⟨rfl, ⟨nd, rfl⟩⟩; refine ⟨_, rfl, ?_⟩))
          go_ret2
          exact ⟨by first | rfl | (simp [errW_none, errW_some] <;> rfl) | (simp [*, errW_none, errW_some] <;> rfl), by repeat (first | (with_reducible first | exact HB.out | apply below_alloc | apply pw_below_drewN | apply below_drew1) | exact HB.out)⟩
      · rw [if_neg c9] at H
        have c9b0 : (t19003 == 110) = false := beq_eq_false_iff_ne.mpr c9
        have c9b1 : (t19003 != 110) = true := bne_iff_ne.mpr c9
        have H' := Aside0.mk H
        clear H
        go_enter Tryd.func18, Tryd.ntmps18
        go_wp2_with (first | ((with_reducible refine gate_callee (f := 46) rfl ?_); refine goesL_ (some 16) rfl rfl Tryd.func46 (by kernel_rfl) rfl #[.string a0] rfl (by (try simp only [List.map_toArray, List.map_cons, List.map_nil]); first | done | rfl | (simp only [List.length_drop, List.length_take]; rfl)) ?_; (with_reducible refine (tinderref19_find.calls k a0 t19001 _ A3.out).mono ?_); rintro e w' ⟨rfl, ⟨nd, rfl⟩⟩; refine ⟨_, rfl, ?_⟩) | ((with_reducible refine gate_callee (f := 47) rfl ?_); refine goesL_ (some 21) rfl rfl Tryd.func47 (by kernel_rfl) rfl #[.int .i64 t19001] rfl (by (try simp only [List.map_toArray, List.map_cons, List.map_nil]); first | done | rfl | (simp only [List.length_drop, List.length_take]; rfl)) ?_; (with_reducible refine (tinderref19_Variable.calls t19001 t19002 t19003 t19004 _ A5.out).mono ?_); rintro e w' ⟨rfl, ⟨nd, rfl⟩⟩; refine ⟨_, rfl, ?_⟩))
        go_loopg [14] k (fun kq v14 w' => ∃ (x14_1 : Int), v14 = .int .i64 x14_1 ∧ Aside0 (tinderref19_Form.l0 kq a1 x14_1 = some (r1, r2)) ∧ Aside0 (kq ≤ k) ∧ Aside0 (Below w.heap.size w w'))
        case atStart => exact ⟨(0), (by first | rfl | (simp; done) | (simp [*]; done)), H', ⟨Nat.le_refl _⟩, ⟨by repeat (first | (with_reducible first | exact HB.out | apply below_alloc | apply pw_below_drewN | apply below_drew1) | exact HB.out)⟩⟩
        case round =>
          clear H'
          try clear c1
          try clear p2
          try clear c4
          try clear c4b0
          try clear c6
          try clear c6b0
          try clear c6b1
          try clear c7
          try clear c7b0
          try clear c7b1
          try clear c8
          try clear c8b0
          try clear c8b1
          try clear c9
          try clear c9b0
          try clear c9b1
          try clear c11
          try clear c11b0
          try clear c11b1
          obtain ⟨x14_1, rfl, HA, HK1, HB⟩ := hrel
          cases gk with
          | zero => exact absurd HA.out (by simp [tinderref19_Form.l0])
          | succ k1 =>
            have H := HA.out
            clear HA
            simp only [tinderref19_Form.l0] at H
            by_cases c14 : x14_1 < (a1.size : Int)
            · rw [if_pos c14] at H
              have c14b0 : decide (x14_1 < (a1.size : Int)) = true := decide_eq_true c14
              clear c14
              by_cases c15 : 0 ≤ x14_1
              · rw [if_pos c15] at H
                have c15b0 : decide (0 ≤ x14_1) = true := decide_eq_true c15
                clear c15
                by_cases c17 : (bt a1 x14_1) < 32
                · rw [if_pos c17] at H
                  have c17b0 : decide ((bt a1 x14_1) < 32) = true := decide_eq_true c17
                  clear c17
                  simp only [Option.some.injEq, Prod.mk.injEq] at H
                  obtain ⟨rfl, rfl⟩ := H
                  have p16 : 0 ≤ (x14_1 : Int) := of_decide_eq_true (by first | (with_reducible assumption) | assumption)
                  have q16 : x14_1 < (a1.size : Int) := of_decide_eq_true (by first | (with_reducible assumption) | assumption)
                  have hx16 := bt_at a1 x14_1
                  replace p16 := eq_true p16
                  replace q16 := eq_true q16
                  go_wp2
                  go_ret2
                  exact ⟨by first | rfl | (simp [errW_none, errW_some] <;> rfl) | (simp [*, errW_none, errW_some] <;> rfl), by repeat (first | (with_reducible first | exact HB.out | apply below_alloc | apply pw_below_drewN | apply below_drew1) | exact HB.out)⟩
                · rw [if_neg c17] at H
                  have c17b0 : decide ((bt a1 x14_1) < 32) = false := decide_eq_false c17
                  clear c17
                  by_cases c19 : (bt a1 x14_1) > 126
                  · rw [if_pos c19] at H
                    have c19b0 : decide (126 < (bt a1 x14_1)) = true := decide_eq_true c19
                    clear c19
                    simp only [Option.some.injEq, Prod.mk.injEq] at H
                    obtain ⟨rfl, rfl⟩ := H
                    have p16 : 0 ≤ (x14_1 : Int) := of_decide_eq_true (by first | (with_reducible assumption) | assumption)
                    have q16 : x14_1 < (a1.size : Int) := of_decide_eq_true (by first | (with_reducible assumption) | assumption)
                    have hx16 := bt_at a1 x14_1
                    replace p16 := eq_true p16
                    replace q16 := eq_true q16
                    have p18 : 0 ≤ (x14_1 : Int) := of_decide_eq_true (by first | (with_reducible assumption) | assumption)
                    have q18 : x14_1 < (a1.size : Int) := of_decide_eq_true (by first | (with_reducible assumption) | assumption)
                    have hx18 := bt_at a1 x14_1
                    replace p18 := eq_true p18
                    replace q18 := eq_true q18
                    go_wp2
                    go_ret2
                    exact ⟨by first | rfl | (simp [errW_none, errW_some] <;> rfl) | (simp [*, errW_none, errW_some] <;> rfl), by repeat (first | (with_reducible first | exact HB.out | apply below_alloc | apply pw_below_drewN | apply below_drew1) | exact HB.out)⟩
                  · rw [if_neg c19] at H
                    have c19b0 : decide (126 < (bt a1 x14_1)) = false := decide_eq_false c19
                    clear c19
                    have H' := Aside0.mk H
                    clear H
                    have p16 : 0 ≤ (x14_1 : Int) := of_decide_eq_true (by first | (with_reducible assumption) | assumption)
                    have q16 : x14_1 < (a1.size : Int) := of_decide_eq_true (by first | (with_reducible assumption) | assumption)
                    have hx16 := bt_at a1 x14_1
                    replace p16 := eq_true p16
                    replace q16 := eq_true q16
                    have p18 : 0 ≤ (x14_1 : Int) := of_decide_eq_true (by first | (with_reducible assumption) | assumption)
                    have q18 : x14_1 < (a1.size : Int) := of_decide_eq_true (by first | (with_reducible assumption) | assumption)
                    have hx18 := bt_at a1 x14_1
                    replace p18 := eq_true p18
                    replace q18 := eq_true q18
                    go_wp2
                    go_roundg k1
                    case measure => have := HK1.out; omega
                    case rel => exact ⟨(wrap64 (x14_1 + 1)), (by first | rfl | (simp; done) | (simp [*]; done)), H', ⟨by have := HK1.out; omega⟩, ⟨by repeat (first | (with_reducible first | exact HB.out | apply below_alloc | apply pw_below_drewN | apply below_drew1) | exact HB.out)⟩⟩
              · rw [if_neg c15] at H
                exact absurd H (by simp)
            · rw [if_neg c14] at H
              have c14b0 : decide (x14_1 < (a1.size : Int)) = false := decide_eq_false c14
              clear c14
              by_cases c20 : (a1.size : Int) ≤ 128
              · rw [if_pos c20] at H
                have c20b0 : decide ((a1.size : Int) ≤ 128) = true := decide_eq_true c20
                have c20b1 : decide (a1.size ≤ 128) = true := decide_eq_true (by omega)
                clear c20
                simp only [Option.some.injEq, Prod.mk.injEq] at H
                obtain ⟨rfl, rfl⟩ := H
                go_wp2
                go_ret2
                exact ⟨by first | rfl | (simp [errW_none, errW_some] <;> rfl) | (simp [*, errW_none, errW_some] <;> rfl), by repeat (first | (with_reducible first | exact HB.out | apply below_alloc | apply pw_below_drewN | apply below_drew1) | exact HB.out)⟩
              · rw [if_neg c20] at H
                have c20b0 : decide ((a1.size : Int) ≤ 128) = false := decide_eq_false c20
                have c20b1 : decide (a1.size ≤ 128) = false := decide_eq_false (by omega)
                clear c20
                simp only [Option.some.injEq, Prod.mk.injEq] at H
                obtain ⟨rfl, rfl⟩ := H
                go_wp2
                go_ret2
                exact ⟨by first | rfl | (simp [errW_none, errW_some] <;> rfl) | (simp [*, errW_none, errW_some] <;> rfl), by repeat (first | (with_reducible first | exact HB.out | apply below_alloc | apply pw_below_drewN | apply below_drew1) | exact HB.out)⟩

end Go.Proofs.YtefhngadeimklaaDoor.Q
end
section
namespace Go.Proofs.YtefhngadeimklaaDoor.Q
open Go.RowKit Go.Proofs.YtefhngadeimklaaDoorW.PrintWords Go.Proofs.YtefhngadeimklaaDoorW.PrintLast Go.Proofs.YtefhngadeimklaaDoorW.PrintMore
set_option linter.unusedVariables false
set_option linter.unusedSimpArgs false

attribute [local go_sem] max2_int min2_int max_two min_two max_three min_three max_four min_four
/-! ### tinderref19_Right: function 25 -/
def tinderref19_Right.l0 : Nat → List (S40) → Int → Int → Option (Bool)
  | 0, _, _, _ => none
  | k + 1, x0, x3, x4 => if x4 < (x0.length : Int) then (if 0 ≤ x4 then ((tinderref19_find.f k ((rd_T40 x0 x4).f0)).bind fun t26002 => (if t26002 ≤ x3 then (some false) else ((tinderref19_Form.f k ((rd_T40 x0 x4).f0) ((rd_T40 x0 x4).f1)).bind fun bt26005 => ((tinderref19_Default.f k ((rd_T40 x0 x4).f0)).bind fun bt26008 => (if bt26005.2 = 0 then (if bt26005.1.toList = ((rd_T40 x0 x4).f1).toList then (if bt26005.1.toList = bt26008.1.toList then (some false) else (tinderref19_Right.l0 k x0 t26002 (wrap64 (x4 + 1)))) else (some false)) else (some false)))))) else (none)) else (some true)
def tinderref19_Right.f (k : Nat) (l0 : List (S40)) : Option (Bool) := tinderref19_Right.l0 k l0 (-1) 0
theorem tinderref19_Right.mono_l : ∀ k, (∀ y0 y1 y2, LeO (tinderref19_Right.l0 k y0 y1 y2) (tinderref19_Right.l0 (k + 1) y0 y1 y2))
  | 0 => fun _ _ _ r h => by simp [tinderref19_Right.l0] at h
  | k + 1 => by
    have ih0 := tinderref19_Right.mono_l k
    · intro y0 y1 y2
      unfold tinderref19_Right.l0
      repeat' first
      | (with_reducible exact ih0 _ _ _)
      | (with_reducible exact tinderref19_Default.mono _ _)
      | (with_reducible exact tinderref19_Form.mono _ _ _)
      | (with_reducible exact tinderref19_find.mono _ _)
      | (with_reducible exact LeO.refl _)
      | (with_reducible exact LeO.none _)
      | (with_reducible refine LeO.ite ?_ ?_)
      | (with_reducible refine LeO.bind ?_ (fun _ => ?_))
      | exact ih0 _ _ _
      | exact tinderref19_Default.mono _ _
      | exact tinderref19_Form.mono _ _ _
      | exact tinderref19_find.mono _ _
      | exact LeO.none _
      | refine LeO.ite ?_ ?_
      | refine LeO.bind ?_ (fun _ => ?_)
theorem tinderref19_Right.mono : ∀ a0 k, LeO (tinderref19_Right.f k a0) (tinderref19_Right.f (k + 1) a0) := by
  intro a0 k
  have ih0 := tinderref19_Right.mono_l k
  unfold tinderref19_Right.f
  repeat' first
      | (with_reducible exact ih0 _ _ _)
      | (with_reducible exact tinderref19_Default.mono _ _)
      | (with_reducible exact tinderref19_Form.mono _ _ _)
      | (with_reducible exact tinderref19_find.mono _ _)
      | (with_reducible exact LeO.refl _)
      | (with_reducible exact LeO.none _)
      | (with_reducible refine LeO.ite ?_ ?_)
      | (with_reducible refine LeO.bind ?_ (fun _ => ?_))
      | exact ih0 _ _ _
      | exact tinderref19_Default.mono _ _
      | exact tinderref19_Form.mono _ _ _
      | exact tinderref19_find.mono _ _
      | exact LeO.none _
      | refine LeO.ite ?_ ?_
      | refine LeO.bind ?_ (fun _ => ?_)
def tinderref19_Right.T9 : Bool × List (List Nat × List Nat) := (true, [([], []), ([], []), ([0, 1], [0, 1]), ([2], [2]), ([3], [3]), ([], []), ([], []), ([5, 6], [5, 6]), ([7], [7]), ([8], [8]), ([4, 9], [4, 9]), ([10], [10]), ([11], [11]), ([11], [11]), ([12, 10, 0, 1, 2, 3, 4, 5, 6, 7, 8, 9, 10, 11, 12], [12]), ([13, 14, 0, 1, 2, 3, 4, 5, 6, 7, 8, 9, 10, 11, 12, 13, 14], [13])])
def tinderref19_Right.B9 : List Nat := [0, 0, 3, 7, 15, 0, 0, 96, 224, 480, 1023, 2047, 4095, 4095, 8191, 32767]
theorem tinderref19_Right.tab9 : rtab .any (opsOf Tryd.f25 9) = tinderref19_Right.T9 := by kernel_rfl
theorem tinderref19_Right.bits9 : waitsOk tinderref19_Right.T9.2 tinderref19_Right.B9 = true := by kernel_rfl
set_option maxHeartbeats 8000000 in
set_option maxRecDepth 100000 in
theorem tinderref19_Right.calls (k : Nat) (A0 : Option Addr) (c0 : Nat) (l0 : List (S40)) (r : Bool) (w : World) (hr0 : Kd.C k40 w A0 l0.length l0) (hc0 : l0.length ≤ c0) (h : tinderref19_Right.f k l0 = some r) :
    Calls Tryd.prog 25 #[.slice A0 l0.length c0] w fun e w' => e = .returned (.bool r) ∧ Below w.heap.size w w' := by
  have HR0 := Aside0.mk hr0
  have HC0 := Aside0.mk hc0
  clear hr0 hc0
  have HB := Aside0.mk (Below.refl w.heap.size w)
  have H : (tinderref19_Right.l0 k l0 (-1) 0) = some r := h
  clear h
  have H' := Aside0.mk H
  clear H
  go_enter Tryd.func25, Tryd.ntmps25
  go_wp2
  go_loopg [3, 4] k (fun kq v3 v4 w' => ∃ (x3_1 : Int) (x4_1 : Int), v3 = .int .i64 x3_1 ∧ v4 = .int .i64 x4_1 ∧ Aside0 (tinderref19_Right.l0 kq l0 x3_1 x4_1 = some r) ∧ Aside0 (kq ≤ k) ∧ Aside0 (Below w.heap.size w w'))
  case atStart => exact ⟨((-1)), (0), (by first | rfl | (simp; done) | (simp [*]; done)), (by first | rfl | (simp; done) | (simp [*]; done)), H', ⟨Nat.le_refl _⟩, ⟨by repeat (first | (with_reducible first | exact HB.out | apply below_alloc | apply pw_below_drewN | apply below_drew1) | exact HB.out)⟩⟩
  case round =>
    clear H'
    obtain ⟨x3_1, x4_1, rfl, rfl, HA, HK1, HB⟩ := hrel
    cases gk with
    | zero => exact absurd HA.out (by simp [tinderref19_Right.l0])
    | succ k1 =>
      have H := HA.out
      clear HA
      simp only [tinderref19_Right.l0] at H
      by_cases c2 : x4_1 < (l0.length : Int)
      · rw [if_pos c2] at H
        have c2b0 : decide (x4_1 < (l0.length : Int)) = true := decide_eq_true c2
        clear c2
        by_cases c3 : 0 ≤ x4_1
        · rw [if_pos c3] at H
          have c3b0 : decide (0 ≤ x4_1) = true := decide_eq_true c3
          clear c3
          replace H := Option.bind_eq_some_iff.mp H
          obtain ⟨t26002, A40, H⟩ := H
          replace H : (if t26002 ≤ x3_1 then (some false) else ((tinderref19_Form.f k1 ((rd_T40 l0 x4_1).f0) ((rd_T40 l0 x4_1).f1)).bind fun bt26005 => ((tinderref19_Default.f k1 ((rd_T40 l0 x4_1).f0)).bind fun bt26008 => (if bt26005.2 = 0 then (if bt26005.1.toList = ((rd_T40 l0 x4_1).f1).toList then (if bt26005.1.toList = bt26008.1.toList then (some false) else (tinderref19_Right.l0 k1 l0 t26002 (wrap64 (x4_1 + 1)))) else (some false)) else (some false))))) = some r := H
          have A4 := Aside0.mk A40
          clear A40
          by_cases c5 : t26002 ≤ x3_1
          · rw [if_pos c5] at H
            have c5b0 : decide (t26002 ≤ x3_1) = true := decide_eq_true c5
            clear c5
            obtain rfl := Option.some.inj H
            have p26001 : 0 ≤ (x4_1 : Int) := of_decide_eq_true (by first | (with_reducible assumption) | assumption)
            have q26001 : x4_1 < (l0.length : Int) := of_decide_eq_true (by first | (with_reducible assumption) | assumption)
            obtain ⟨ad26001, e26001, hx26001_0, hx26001_1⟩ := at_T40 HR0.out x4_1 p26001 q26001
            cases e26001
            replace hx26001_0 := (HB.out.cell (World.block_lt_of_cell? w _ hx26001_0)).trans hx26001_0
            replace hx26001_1 := (HB.out.cell (World.block_lt_of_cell? w _ hx26001_1)).trans hx26001_1
            replace p26001 := eq_true p26001
            replace q26001 := eq_true q26001
            go_wp2_with (first | ((with_reducible refine gate_callee (f := 46) rfl ?_); refine goesL_ (some 21) rfl rfl Tryd.func46 (by kernel_rfl) rfl #[.string ((rd_T40 l0 x4_1).f0)] rfl (by (try simp only [List.map_toArray, List.map_cons, List.map_nil]); first | done | rfl | (simp only [List.length_drop, List.length_take]; rfl)) ?_; (with_reducible refine (tinderref19_find.calls k1 ((rd_T40 l0 x4_1).f0) t26002 _ A4.out).mono ?_); rintro e w' ⟨rfl, ⟨nd, rfl⟩⟩; refine ⟨_, rfl, ?_⟩))
            go_ret
            exact ⟨by first | rfl | (simp [errW_none, errW_some] <;> rfl) | (simp [*, errW_none, errW_some] <;> rfl), by repeat (first | (with_reducible first | exact HB.out | apply below_alloc | apply pw_below_drewN | apply below_drew1) | exact HB.out)⟩
          · rw [if_neg c5] at H
            have c5b0 : decide (t26002 ≤ x3_1) = false := decide_eq_false c5
            clear c5
            replace H := Option.bind_eq_some_iff.mp H
            obtain ⟨⟨t26005, t26006⟩, A60, H⟩ := H
            replace H : ((tinderref19_Default.f k1 ((rd_T40 l0 x4_1).f0)).bind fun bt26008 => (if t26006 = 0 then (if t26005.toList = ((rd_T40 l0 x4_1).f1).toList then (if t26005.toList = bt26008.1.toList then (some false) else (tinderref19_Right.l0 k1 l0 t26002 (wrap64 (x4_1 + 1)))) else (some false)) else (some false))) = some r := H
            have A6 := Aside0.mk A60
            clear A60
            replace H := Option.bind_eq_some_iff.mp H
            obtain ⟨⟨t26008, t26009⟩, A70, H⟩ := H
            replace H : (if t26006 = 0 then (if t26005.toList = ((rd_T40 l0 x4_1).f1).toList then (if t26005.toList = t26008.toList then (some false) else (tinderref19_Right.l0 k1 l0 t26002 (wrap64 (x4_1 + 1)))) else (some false)) else (some false)) = some r := H
            have A7 := Aside0.mk A70
            clear A70
            by_cases c8 : t26006 = 0
            · rw [if_pos c8] at H
              have c8b0 : (t26006 == 0) = true := beq_iff_eq.mpr c8
              have c8b1 : (t26006 != 0) = false := bne_eq_false_iff_eq.mpr c8
              clear c8
              by_cases c9 : t26005.toList = ((rd_T40 l0 x4_1).f1).toList
              · rw [if_pos c9] at H
                have c9b0 : (t26005.toList == ((rd_T40 l0 x4_1).f1).toList) = true := beq_iff_eq.mpr c9
                have c9b1 : (t26005.toList != ((rd_T40 l0 x4_1).f1).toList) = false := bne_eq_false_iff_eq.mpr c9
                clear c9
                by_cases c10 : t26005.toList = t26008.toList
                · rw [if_pos c10] at H
                  have c10b0 : (t26005.toList == t26008.toList) = true := beq_iff_eq.mpr c10
                  have c10b1 : (t26005.toList != t26008.toList) = false := bne_eq_false_iff_eq.mpr c10
                  clear c10
                  obtain rfl := Option.some.inj H
                  have p26001 : 0 ≤ (x4_1 : Int) := of_decide_eq_true (by first | (with_reducible assumption) | assumption)
                  have q26001 : x4_1 < (l0.length : Int) := of_decide_eq_true (by first | (with_reducible assumption) | assumption)
                  obtain ⟨ad26001, e26001, hx26001_0, hx26001_1⟩ := at_T40 HR0.out x4_1 p26001 q26001
                  cases e26001
                  replace hx26001_0 := (HB.out.cell (World.block_lt_of_cell? w _ hx26001_0)).trans hx26001_0
                  replace hx26001_1 := (HB.out.cell (World.block_lt_of_cell? w _ hx26001_1)).trans hx26001_1
                  replace p26001 := eq_true p26001
                  replace q26001 := eq_true q26001
                  try go_wp2_with (first | ((with_reducible refine gate_callee (f := 46) rfl ?_); refine goesL_ (some 21) rfl rfl Tryd.func46 (by kernel_rfl) rfl #[.string ((rd_T40 l0 x4_1).f0)] rfl (by (try simp only [List.map_toArray, List.map_cons, List.map_nil]); first | done | rfl | (simp only [List.length_drop, List.length_take]; rfl)) ?_; (with_reducible refine (tinderref19_find.calls k1 ((rd_T40 l0 x4_1).f0) t26002 _ A4.out).mono ?_); rintro e w' ⟨rfl, ⟨nd, rfl⟩⟩; refine ⟨_, rfl, ?_⟩))
                  (try (rw [drewN_self wr]; generalize hq_ : World.drewN wr _ = wr; have n0_ : Aside0 (Below w.heap.size w wr) := ⟨by rw [← hq_]; exact (by repeat (first | (with_reducible first | exact HB.out | apply below_alloc | apply pw_below_drewN | apply below_drew1) | exact HB.out))⟩; clear HB hq_; have HB := n0_; clear n0_))
                  have n0_ := Aside0.mk (below_drew1 HB.out)
                  clear HB
                  have HB := n0_
                  clear n0_
                  have p26003 : 0 ≤ (x4_1 : Int) := of_decide_eq_true (by first | (with_reducible assumption) | assumption)
                  have q26003 : x4_1 < (l0.length : Int) := of_decide_eq_true (by first | (with_reducible assumption) | assumption)
                  obtain ⟨ad26003, e26003, hx26003_0, hx26003_1⟩ := at_T40 HR0.out x4_1 p26003 q26003
                  have hw26003_1 := hx26003_1
                  have hw26003_0 := hx26003_0
                  obtain rfl : ad26001 = ad26003 := (by injection e26003)
                  replace hx26003_0 := (HB.out.cell (World.block_lt_of_cell? w _ hx26003_0)).trans hx26003_0
                  replace hx26003_1 := (HB.out.cell (World.block_lt_of_cell? w _ hx26003_1)).trans hx26003_1
                  replace p26003 := eq_true p26003
                  replace q26003 := eq_true q26003
                  have p26004 : 0 ≤ (x4_1 : Int) := of_decide_eq_true (by first | (with_reducible assumption) | assumption)
                  have q26004 : x4_1 < (l0.length : Int) := of_decide_eq_true (by first | (with_reducible assumption) | assumption)
                  obtain ⟨ad26004, e26004, hx26004_0, hx26004_1⟩ := at_T40 HR0.out x4_1 p26004 q26004
                  have hw26004_1 := hx26004_1
                  have hw26004_0 := hx26004_0
                  obtain rfl : ad26001 = ad26004 := (by injection e26004)
                  replace hx26004_0 := (HB.out.cell (World.block_lt_of_cell? w _ hx26004_0)).trans hx26004_0
                  replace hx26004_1 := (HB.out.cell (World.block_lt_of_cell? w _ hx26004_1)).trans hx26004_1
                  replace p26004 := eq_true p26004
                  replace q26004 := eq_true q26004
                  refine start_ (n := 16) (S := fun w' => w'.cell? (ad26001.add ((x4_1).toNat * 2)) = some (.string ((rd_T40 l0 x4_1).f0)) ∧ w'.cell? ⟨(ad26001.add ((x4_1).toNat * 2)).block, (ad26001.add ((x4_1).toNat * 2)).off + 1, none⟩ = some (.string ((rd_T40 l0 x4_1).f1)) ∧ w'.cell? (ad26001.add ((x4_1).toNat * 2)) = some (.string ((rd_T40 l0 x4_1).f0)) ∧ w'.cell? ⟨(ad26001.add ((x4_1).toNat * 2)).block, (ad26001.add ((x4_1).toNat * 2)).off + 1, none⟩ = some (.string ((rd_T40 l0 x4_1).f1))) (ds := []) #[false, false, false, false, false, false, false, false, false, false, false, false, false, false, false, false] (by kernel_rfl) rfl rfl ⟨((HB.out.cell (World.block_lt_of_cell? w _ hw26003_0)).trans hw26003_0), ((HB.out.cell (World.block_lt_of_cell? w _ hw26003_1)).trans hw26003_1), ((HB.out.cell (World.block_lt_of_cell? w _ hw26004_0)).trans hw26004_0), ((HB.out.cell (World.block_lt_of_cell? w _ hw26004_1)).trans hw26004_1)⟩ (fun hHeld => ?_); refine with_tabW tinderref19_Right.tab9 tinderref19_Right.bits9 (fun HT_ HW_ => ?_)
                  generalize wr.drew = w11 at HB hx26003_0 hx26003_1 hx26004_0 hx26004_1 hHeld ⊢
                  refine pure_ (i := 0) (N := some 27) (v := ?_) (a' := ?_) #[true, false, false, false, false, false, false, false, false, false, false, false, false, false, false, false] rfl rfl (any_of HT_.out (by kernel_rfl)) (fun _ _ _ h => h) (Or.inl ⟨by rfl, ?_⟩) ?_ ?_
                  rotate_left
                  · intro w'
                    go_simp
                    with_reducible rfl
                  rotate_left
                  · simp only [Act.put, List.setIfInBounds_toArray, List.set_cons_zero, List.set_cons_succ, i64_w, i32_w]
                    rfl
                  refine pure_ (i := 1) (N := some 28) (v := ?_) (a' := ?_) #[true, true, false, false, false, false, false, false, false, false, false, false, false, false, false, false] rfl rfl (any_of HT_.out (by kernel_rfl)) (fun _ _ _ h => h) (Or.inl ⟨by rfl, ?_⟩) ?_ ?_
                  rotate_left
                  · intro w'
                    go_simp
                    with_reducible rfl
                  rotate_left
                  · simp only [Act.put, List.setIfInBounds_toArray, List.set_cons_zero, List.set_cons_succ, i64_w, i32_w]
                    rfl
                  refine pure_ (i := 2) (N := some 29) (v := ?_) (a' := ?_) #[true, true, true, false, false, false, false, false, false, false, false, false, false, false, false, false] rfl rfl (any_of HT_.out (by kernel_rfl)) (fun _ _ _ h => h) (Or.inl ⟨by rfl, ?_⟩) ?_ ?_
                  rotate_left
                  · intro w'
                    go_simp
                    with_reducible rfl
                  rotate_left
                  · simp only [Act.put, List.setIfInBounds_toArray, List.set_cons_zero, List.set_cons_succ, i64_w, i32_w]
                    rfl
                  refine pure_ (i := 3) (N := some 30) (v := ?_) (a' := ?_) #[true, true, true, true, false, false, false, false, false, false, false, false, false, false, false, false] rfl rfl (any_of HT_.out (by kernel_rfl)) (fun _ _ _ h => h) (Or.inl ⟨by rfl, ?_⟩) ?_ ?_
                  rotate_left
                  · intro w'
                    go_simp
                    with_reducible rfl
                  rotate_left
                  · simp only [Act.put, List.setIfInBounds_toArray, List.set_cons_zero, List.set_cons_succ, i64_w, i32_w]
                    rfl
                  refine pure_ (i := 5) (N := some 32) (v := ?_) (a' := ?_) #[true, true, true, true, false, true, false, false, false, false, false, false, false, false, false, false] rfl rfl (any_of HT_.out (by kernel_rfl)) (fun _ _ _ h => h) (Or.inl ⟨by rfl, ?_⟩) ?_ ?_
                  rotate_left
                  · intro w'
                    go_simp
                    with_reducible rfl
                  rotate_left
                  · simp only [Act.put, List.setIfInBounds_toArray, List.set_cons_zero, List.set_cons_succ, i64_w, i32_w]
                    rfl
                  refine pure_ (i := 6) (N := some 33) (v := ?_) (a' := ?_) #[true, true, true, true, false, true, true, false, false, false, false, false, false, false, false, false] rfl rfl (any_of HT_.out (by kernel_rfl)) (fun _ _ _ h => h) (Or.inl ⟨by rfl, ?_⟩) ?_ ?_
                  rotate_left
                  · intro w'
                    go_simp
                    with_reducible rfl
                  rotate_left
                  · simp only [Act.put, List.setIfInBounds_toArray, List.set_cons_zero, List.set_cons_succ, i64_w, i32_w]
                    rfl
                  refine pure_ (i := 7) (N := some 34) (v := ?_) (a' := ?_) #[true, true, true, true, false, true, true, true, false, false, false, false, false, false, false, false] rfl rfl (any_of HT_.out (by kernel_rfl)) (fun _ _ _ h => h) (Or.inl ⟨by rfl, ?_⟩) ?_ ?_
                  rotate_left
                  · intro w'
                    go_simp
                    with_reducible rfl
                  rotate_left
                  · simp only [Act.put, List.setIfInBounds_toArray, List.set_cons_zero, List.set_cons_succ, i64_w, i32_w]
                    rfl
                  refine pure_ (i := 8) (N := some 35) (v := ?_) (a' := ?_) #[true, true, true, true, false, true, true, true, true, false, false, false, false, false, false, false] rfl rfl (any_of HT_.out (by kernel_rfl)) (fun _ _ _ h => h) (Or.inl ⟨by rfl, ?_⟩) ?_ ?_
                  rotate_left
                  · intro w'
                    go_simp
                    with_reducible rfl
                  rotate_left
                  · simp only [Act.put, List.setIfInBounds_toArray, List.set_cons_zero, List.set_cons_succ, i64_w, i32_w]
                    rfl
                  refine take_ (i := 4) (N := some 31) (v := ?_) (a' := ?_) #[true, true, true, true, true, true, true, true, true, false, false, false, false, false, false, false] rfl rfl (take_ofW HT_.out HW_.out (by kernel_rfl)) (fun _ _ _ h => h) (Or.inl ⟨by rfl, ?_⟩) hHeld ?_ ?_
                  rotate_left
                  · rintro w' ⟨s0, s1, s2, s3⟩
                    go_simp
                    with_reducible rfl
                  rotate_left
                  · simp only [Act.put, List.setIfInBounds_toArray, List.set_cons_zero, List.set_cons_succ, i64_w, i32_w]
                    rfl
                  refine take_ (i := 9) (N := some 36) (v := ?_) (a' := ?_) #[true, true, true, true, true, true, true, true, true, true, false, false, false, false, false, false] rfl rfl (take_ofW HT_.out HW_.out (by kernel_rfl)) (fun _ _ _ h => h) (Or.inl ⟨by rfl, ?_⟩) hHeld ?_ ?_
                  rotate_left
                  · rintro w' ⟨s0, s1, s2, s3⟩
                    go_simp
                    with_reducible rfl
                  rotate_left
                  · simp only [Act.put, List.setIfInBounds_toArray, List.set_cons_zero, List.set_cons_succ, i64_w, i32_w]
                    rfl
                  refine one_ (i := 10) (N := some 37) #[true, true, true, true, true, true, true, true, true, true, true, false, false, false, false, false] rfl rfl (one_of HT_.out (by kernel_rfl)) (by decide) (fun K hK => ?_)
                  refine goes_ Tryd.func18 (by kernel_rfl) rfl #[.string ((rd_T40 l0 x4_1).f0), .string ((rd_T40 l0 x4_1).f1)] (by rfl) rfl rfl (by (try simp only [List.map_toArray, List.map_cons, List.map_nil]); first | done | rfl | (simp only [List.length_drop, List.length_take]; rfl)) ?_
                  with_reducible refine (tinderref19_Form.calls k1 ((rd_T40 l0 x4_1).f0) ((rd_T40 l0 x4_1).f1) t26005 t26006 _ A6.out).mono ?_
                  rintro e w12 ⟨rfl, hb⟩
                  refine ⟨_, rfl, ?_⟩
                  have n0_ := Aside0.mk (below_step (by repeat (first | (with_reducible first | exact HB.out | apply below_alloc | apply pw_below_drewN | apply below_drew1) | exact HB.out)) hb)
                  clear HB
                  have HB := n0_
                  clear n0_
                  (try clear hb)
                  (try clear hb2)
                  (try clear hk)
                  (try clear hi)
                  refine hK.out _ _ ⟨((HB.out.cell (World.block_lt_of_cell? w _ hw26003_0)).trans hw26003_0), ((HB.out.cell (World.block_lt_of_cell? w _ hw26003_1)).trans hw26003_1), ((HB.out.cell (World.block_lt_of_cell? w _ hw26004_0)).trans hw26004_0), ((HB.out.cell (World.block_lt_of_cell? w _ hw26004_1)).trans hw26004_1)⟩ (fun hHeld => ?_)
                  clear hK K
                  refine norm_ (a' := ?_) ?_ ?_
                  rotate_left
                  · show Act.put _ (some 37) _ = _
                    simp only [Act.put, List.setIfInBounds_toArray, List.set_cons_zero, List.set_cons_succ, i64_w, i32_w]
                    rfl
                  refine pure_ (i := 11) (N := some 26) (v := ?_) (a' := ?_) #[true, true, true, true, true, true, true, true, true, true, true, true, false, false, false, false] rfl rfl (any_of HT_.out (by kernel_rfl)) (fun _ _ _ h => h) (Or.inl ⟨by rfl, ?_⟩) ?_ ?_
                  rotate_left
                  · intro w'
                    go_simp
                    with_reducible rfl
                  rotate_left
                  · simp only [Act.put, List.setIfInBounds_toArray, List.set_cons_zero, List.set_cons_succ, i64_w, i32_w]
                    rfl
                  refine pure_ (i := 12) (N := some 38) (v := ?_) (a' := ?_) #[true, true, true, true, true, true, true, true, true, true, true, true, true, false, false, false] rfl rfl (any_of HT_.out (by kernel_rfl)) (fun _ _ _ h => h) (Or.inl ⟨by rfl, ?_⟩) ?_ ?_
                  rotate_left
                  · intro w'
                    go_simp
                    with_reducible rfl
                  rotate_left
                  · simp only [Act.put, List.setIfInBounds_toArray, List.set_cons_zero, List.set_cons_succ, i64_w, i32_w]
                    rfl
                  refine pure_ (i := 13) (N := some 39) (v := ?_) (a' := ?_) #[true, true, true, true, true, true, true, true, true, true, true, true, true, true, false, false] rfl rfl (any_of HT_.out (by kernel_rfl)) (fun _ _ _ h => h) (Or.inl ⟨by rfl, ?_⟩) ?_ ?_
                  rotate_left
                  · intro w'
                    go_simp
                    with_reducible rfl
                  rotate_left
                  · simp only [Act.put, List.setIfInBounds_toArray, List.set_cons_zero, List.set_cons_succ, i64_w, i32_w]
                    rfl
                  refine pure_ (i := 14) (N := some 6) (v := ?_) (a' := ?_) #[true, true, true, true, true, true, true, true, true, true, true, true, true, true, true, false] rfl rfl (any_of HT_.out (by kernel_rfl)) (fun _ _ _ h => h) (Or.inl ⟨by rfl, ?_⟩) ?_ ?_
                  rotate_left
                  · intro w'
                    go_simp
                    with_reducible rfl
                  rotate_left
                  · simp only [Act.put, List.setIfInBounds_toArray, List.set_cons_zero, List.set_cons_succ, i64_w, i32_w]
                    rfl
                  refine pure_ (i := 15) (N := some 7) (v := ?_) (a' := ?_) #[true, true, true, true, true, true, true, true, true, true, true, true, true, true, true, true] rfl rfl (any_of HT_.out (by kernel_rfl)) (fun _ _ _ h => h) (Or.inl ⟨by rfl, ?_⟩) ?_ ?_
                  rotate_left
                  · intro w'
                    go_simp
                    with_reducible rfl
                  rotate_left
                  · simp only [Act.put, List.setIfInBounds_toArray, List.set_cons_zero, List.set_cons_succ, i64_w, i32_w]
                    rfl
                  refine done_ (done_of HT_.out (by kernel_rfl)) ?_
                  have p26007 : 0 ≤ (x4_1 : Int) := of_decide_eq_true (by first | (with_reducible assumption) | assumption)
                  have q26007 : x4_1 < (l0.length : Int) := of_decide_eq_true (by first | (with_reducible assumption) | assumption)
                  obtain ⟨ad26007, e26007, hx26007_0, hx26007_1⟩ := at_T40 HR0.out x4_1 p26007 q26007
                  obtain rfl : ad26001 = ad26007 := (by injection e26007)
                  replace hx26007_0 := (HB.out.cell (World.block_lt_of_cell? w _ hx26007_0)).trans hx26007_0
                  replace hx26007_1 := (HB.out.cell (World.block_lt_of_cell? w _ hx26007_1)).trans hx26007_1
                  replace p26007 := eq_true p26007
                  replace q26007 := eq_true q26007
                  try go_wp2_with (first | ((with_reducible refine gate_callee (f := 20) rfl ?_); refine goesL_ (some 46) rfl rfl Tryd.func20 (by kernel_rfl) rfl #[.string ((rd_T40 l0 x4_1).f0)] rfl (by (try simp only [List.map_toArray, List.map_cons, List.map_nil]); first | done | rfl | (simp only [List.length_drop, List.length_take]; rfl)) ?_; (with_reducible refine (tinderref19_Default.calls k1 ((rd_T40 l0 x4_1).f0) t26008 t26009 _ A7.out).mono ?_); rintro e w' ⟨rfl, ⟨nd, rfl⟩⟩; refine ⟨_, rfl, ?_⟩; have p26010 : 0 ≤ (x4_1 : Int) := of_decide_eq_true (by first | (with_reducible assumption) | assumption); have q26010 : x4_1 < (l0.length : Int) := of_decide_eq_true (by first | (with_reducible assumption) | assumption); obtain ⟨ad26010, e26010, hx26010_0, hx26010_1⟩ := at_T40 HR0.out x4_1 p26010 q26010; obtain rfl : ad26001 = ad26010 := (by injection e26010); replace hx26010_0 := (HB.out.cell (World.block_lt_of_cell? w _ hx26010_0)).trans hx26010_0; replace hx26010_1 := (HB.out.cell (World.block_lt_of_cell? w _ hx26010_1)).trans hx26010_1; replace p26010 := eq_true p26010; replace q26010 := eq_true q26010))
                  go_ret
                  exact ⟨by first | rfl | (simp [errW_none, errW_some] <;> rfl) | (simp [*, errW_none, errW_some] <;> rfl), by repeat (first | (with_reducible first | exact HB.out | apply below_alloc | apply pw_below_drewN | apply below_drew1) | exact HB.out)⟩
                · rw [if_neg c10] at H
                  have c10b0 : (t26005.toList == t26008.toList) = false := beq_eq_false_iff_ne.mpr c10
                  have c10b1 : (t26005.toList != t26008.toList) = true := bne_iff_ne.mpr c10
                  have H' := Aside0.mk H
                  clear H
                  have p26001 : 0 ≤ (x4_1 : Int) := of_decide_eq_true (by first | (with_reducible assumption) | assumption)
                  have q26001 : x4_1 < (l0.length : Int) := of_decide_eq_true (by first | (with_reducible assumption) | assumption)
                  obtain ⟨ad26001, e26001, hx26001_0, hx26001_1⟩ := at_T40 HR0.out x4_1 p26001 q26001
                  cases e26001
                  replace hx26001_0 := (HB.out.cell (World.block_lt_of_cell? w _ hx26001_0)).trans hx26001_0
                  replace hx26001_1 := (HB.out.cell (World.block_lt_of_cell? w _ hx26001_1)).trans hx26001_1
                  replace p26001 := eq_true p26001
                  replace q26001 := eq_true q26001
                  try go_wp2_with (first | ((with_reducible refine gate_callee (f := 46) rfl ?_); refine goesL_ (some 21) rfl rfl Tryd.func46 (by kernel_rfl) rfl #[.string ((rd_T40 l0 x4_1).f0)] rfl (by (try simp only [List.map_toArray, List.map_cons, List.map_nil]); first | done | rfl | (simp only [List.length_drop, List.length_take]; rfl)) ?_; (with_reducible refine (tinderref19_find.calls k1 ((rd_T40 l0 x4_1).f0) t26002 _ A4.out).mono ?_); rintro e w' ⟨rfl, ⟨nd, rfl⟩⟩; refine ⟨_, rfl, ?_⟩))
                  (try (rw [drewN_self wr]; generalize hq_ : World.drewN wr _ = wr; have n0_ : Aside0 (Below w.heap.size w wr) := ⟨by rw [← hq_]; exact (by repeat (first | (with_reducible first | exact HB.out | apply below_alloc | apply pw_below_drewN | apply below_drew1) | exact HB.out))⟩; clear HB hq_; have HB := n0_; clear n0_))
                  have n0_ := Aside0.mk (below_drew1 HB.out)
                  clear HB
                  have HB := n0_
                  clear n0_
                  have p26003 : 0 ≤ (x4_1 : Int) := of_decide_eq_true (by first | (with_reducible assumption) | assumption)
                  have q26003 : x4_1 < (l0.length : Int) := of_decide_eq_true (by first | (with_reducible assumption) | assumption)
                  obtain ⟨ad26003, e26003, hx26003_0, hx26003_1⟩ := at_T40 HR0.out x4_1 p26003 q26003
                  have hw26003_1 := hx26003_1
                  have hw26003_0 := hx26003_0
                  obtain rfl : ad26001 = ad26003 := (by injection e26003)
                  replace hx26003_0 := (HB.out.cell (World.block_lt_of_cell? w _ hx26003_0)).trans hx26003_0
                  replace hx26003_1 := (HB.out.cell (World.block_lt_of_cell? w _ hx26003_1)).trans hx26003_1
                  replace p26003 := eq_true p26003
                  replace q26003 := eq_true q26003
                  have p26004 : 0 ≤ (x4_1 : Int) := of_decide_eq_true (by first | (with_reducible assumption) | assumption)
                  have q26004 : x4_1 < (l0.length : Int) := of_decide_eq_true (by first | (with_reducible assumption) | assumption)
                  obtain ⟨ad26004, e26004, hx26004_0, hx26004_1⟩ := at_T40 HR0.out x4_1 p26004 q26004
                  have hw26004_1 := hx26004_1
                  have hw26004_0 := hx26004_0
                  obtain rfl : ad26001 = ad26004 := (by injection e26004)
                  replace hx26004_0 := (HB.out.cell (World.block_lt_of_cell? w _ hx26004_0)).trans hx26004_0
                  replace hx26004_1 := (HB.out.cell (World.block_lt_of_cell? w _ hx26004_1)).trans hx26004_1
                  replace p26004 := eq_true p26004
                  replace q26004 := eq_true q26004
                  refine start_ (n := 16) (S := fun w' => w'.cell? (ad26001.add ((x4_1).toNat * 2)) = some (.string ((rd_T40 l0 x4_1).f0)) ∧ w'.cell? ⟨(ad26001.add ((x4_1).toNat * 2)).block, (ad26001.add ((x4_1).toNat * 2)).off + 1, none⟩ = some (.string ((rd_T40 l0 x4_1).f1)) ∧ w'.cell? (ad26001.add ((x4_1).toNat * 2)) = some (.string ((rd_T40 l0 x4_1).f0)) ∧ w'.cell? ⟨(ad26001.add ((x4_1).toNat * 2)).block, (ad26001.add ((x4_1).toNat * 2)).off + 1, none⟩ = some (.string ((rd_T40 l0 x4_1).f1))) (ds := []) #[false, false, false, false, false, false, false, false, false, false, false, false, false, false, false, false] (by kernel_rfl) rfl rfl ⟨((HB.out.cell (World.block_lt_of_cell? w _ hw26003_0)).trans hw26003_0), ((HB.out.cell (World.block_lt_of_cell? w _ hw26003_1)).trans hw26003_1), ((HB.out.cell (World.block_lt_of_cell? w _ hw26004_0)).trans hw26004_0), ((HB.out.cell (World.block_lt_of_cell? w _ hw26004_1)).trans hw26004_1)⟩ (fun hHeld => ?_); refine with_tabW tinderref19_Right.tab9 tinderref19_Right.bits9 (fun HT_ HW_ => ?_)
                  generalize wr.drew = w13 at HB hx26003_0 hx26003_1 hx26004_0 hx26004_1 hHeld ⊢
                  refine pure_ (i := 0) (N := some 27) (v := ?_) (a' := ?_) #[true, false, false, false, false, false, false, false, false, false, false, false, false, false, false, false] rfl rfl (any_of HT_.out (by kernel_rfl)) (fun _ _ _ h => h) (Or.inl ⟨by rfl, ?_⟩) ?_ ?_
                  rotate_left
                  · intro w'
                    go_simp
                    with_reducible rfl
                  rotate_left
                  · simp only [Act.put, List.setIfInBounds_toArray, List.set_cons_zero, List.set_cons_succ, i64_w, i32_w]
                    rfl
                  refine pure_ (i := 1) (N := some 28) (v := ?_) (a' := ?_) #[true, true, false, false, false, false, false, false, false, false, false, false, false, false, false, false] rfl rfl (any_of HT_.out (by kernel_rfl)) (fun _ _ _ h => h) (Or.inl ⟨by rfl, ?_⟩) ?_ ?_
                  rotate_left
                  · intro w'
                    go_simp
                    with_reducible rfl
                  rotate_left
                  · simp only [Act.put, List.setIfInBounds_toArray, List.set_cons_zero, List.set_cons_succ, i64_w, i32_w]
                    rfl
                  refine pure_ (i := 2) (N := some 29) (v := ?_) (a' := ?_) #[true, true, true, false, false, false, false, false, false, false, false, false, false, false, false, false] rfl rfl (any_of HT_.out (by kernel_rfl)) (fun _ _ _ h => h) (Or.inl ⟨by rfl, ?_⟩) ?_ ?_
                  rotate_left
                  · intro w'
                    go_simp
                    with_reducible rfl
                  rotate_left
                  · simp only [Act.put, List.setIfInBounds_toArray, List.set_cons_zero, List.set_cons_succ, i64_w, i32_w]
                    rfl
                  refine pure_ (i := 3) (N := some 30) (v := ?_) (a' := ?_) #[true, true, true, true, false, false, false, false, false, false, false, false, false, false, false, false] rfl rfl (any_of HT_.out (by kernel_rfl)) (fun _ _ _ h => h) (Or.inl ⟨by rfl, ?_⟩) ?_ ?_
                  rotate_left
                  · intro w'
                    go_simp
                    with_reducible rfl
                  rotate_left
                  · simp only [Act.put, List.setIfInBounds_toArray, List.set_cons_zero, List.set_cons_succ, i64_w, i32_w]
                    rfl
                  refine pure_ (i := 5) (N := some 32) (v := ?_) (a' := ?_) #[true, true, true, true, false, true, false, false, false, false, false, false, false, false, false, false] rfl rfl (any_of HT_.out (by kernel_rfl)) (fun _ _ _ h => h) (Or.inl ⟨by rfl, ?_⟩) ?_ ?_
                  rotate_left
                  · intro w'
                    go_simp
                    with_reducible rfl
                  rotate_left
                  · simp only [Act.put, List.setIfInBounds_toArray, List.set_cons_zero, List.set_cons_succ, i64_w, i32_w]
                    rfl
                  refine pure_ (i := 6) (N := some 33) (v := ?_) (a' := ?_) #[true, true, true, true, false, true, true, false, false, false, false, false, false, false, false, false] rfl rfl (any_of HT_.out (by kernel_rfl)) (fun _ _ _ h => h) (Or.inl ⟨by rfl, ?_⟩) ?_ ?_
                  rotate_left
                  · intro w'
                    go_simp
                    with_reducible rfl
                  rotate_left
                  · simp only [Act.put, List.setIfInBounds_toArray, List.set_cons_zero, List.set_cons_succ, i64_w, i32_w]
                    rfl
                  refine pure_ (i := 7) (N := some 34) (v := ?_) (a' := ?_) #[true, true, true, true, false, true, true, true, false, false, false, false, false, false, false, false] rfl rfl (any_of HT_.out (by kernel_rfl)) (fun _ _ _ h => h) (Or.inl ⟨by rfl, ?_⟩) ?_ ?_
                  rotate_left
                  · intro w'
                    go_simp
                    with_reducible rfl
                  rotate_left
                  · simp only [Act.put, List.setIfInBounds_toArray, List.set_cons_zero, List.set_cons_succ, i64_w, i32_w]
                    rfl
                  refine pure_ (i := 8) (N := some 35) (v := ?_) (a' := ?_) #[true, true, true, true, false, true, true, true, true, false, false, false, false, false, false, false] rfl rfl (any_of HT_.out (by kernel_rfl)) (fun _ _ _ h => h) (Or.inl ⟨by rfl, ?_⟩) ?_ ?_
                  rotate_left
                  · intro w'
                    go_simp
                    with_reducible rfl
                  rotate_left
                  · simp only [Act.put, List.setIfInBounds_toArray, List.set_cons_zero, List.set_cons_succ, i64_w, i32_w]
                    rfl
                  refine take_ (i := 4) (N := some 31) (v := ?_) (a' := ?_) #[true, true, true, true, true, true, true, true, true, false, false, false, false, false, false, false] rfl rfl (take_ofW HT_.out HW_.out (by kernel_rfl)) (fun _ _ _ h => h) (Or.inl ⟨by rfl, ?_⟩) hHeld ?_ ?_
                  rotate_left
                  · rintro w' ⟨s0, s1, s2, s3⟩
                    go_simp
                    with_reducible rfl
                  rotate_left
                  · simp only [Act.put, List.setIfInBounds_toArray, List.set_cons_zero, List.set_cons_succ, i64_w, i32_w]
                    rfl
                  refine take_ (i := 9) (N := some 36) (v := ?_) (a' := ?_) #[true, true, true, true, true, true, true, true, true, true, false, false, false, false, false, false] rfl rfl (take_ofW HT_.out HW_.out (by kernel_rfl)) (fun _ _ _ h => h) (Or.inl ⟨by rfl, ?_⟩) hHeld ?_ ?_
                  rotate_left
                  · rintro w' ⟨s0, s1, s2, s3⟩
                    go_simp
                    with_reducible rfl
                  rotate_left
                  · simp only [Act.put, List.setIfInBounds_toArray, List.set_cons_zero, List.set_cons_succ, i64_w, i32_w]
                    rfl
                  refine one_ (i := 10) (N := some 37) #[true, true, true, true, true, true, true, true, true, true, true, false, false, false, false, false] rfl rfl (one_of HT_.out (by kernel_rfl)) (by decide) (fun K hK => ?_)
                  refine goes_ Tryd.func18 (by kernel_rfl) rfl #[.string ((rd_T40 l0 x4_1).f0), .string ((rd_T40 l0 x4_1).f1)] (by rfl) rfl rfl (by (try simp only [List.map_toArray, List.map_cons, List.map_nil]); first | done | rfl | (simp only [List.length_drop, List.length_take]; rfl)) ?_
                  with_reducible refine (tinderref19_Form.calls k1 ((rd_T40 l0 x4_1).f0) ((rd_T40 l0 x4_1).f1) t26005 t26006 _ A6.out).mono ?_
                  rintro e w14 ⟨rfl, hb⟩
                  refine ⟨_, rfl, ?_⟩
                  have n0_ := Aside0.mk (below_step (by repeat (first | (with_reducible first | exact HB.out | apply below_alloc | apply pw_below_drewN | apply below_drew1) | exact HB.out)) hb)
                  clear HB
                  have HB := n0_
                  clear n0_
                  (try clear hb)
                  (try clear hb2)
                  (try clear hk)
                  (try clear hi)
                  refine hK.out _ _ ⟨((HB.out.cell (World.block_lt_of_cell? w _ hw26003_0)).trans hw26003_0), ((HB.out.cell (World.block_lt_of_cell? w _ hw26003_1)).trans hw26003_1), ((HB.out.cell (World.block_lt_of_cell? w _ hw26004_0)).trans hw26004_0), ((HB.out.cell (World.block_lt_of_cell? w _ hw26004_1)).trans hw26004_1)⟩ (fun hHeld => ?_)
                  clear hK K
                  refine norm_ (a' := ?_) ?_ ?_
                  rotate_left
                  · show Act.put _ (some 37) _ = _
                    simp only [Act.put, List.setIfInBounds_toArray, List.set_cons_zero, List.set_cons_succ, i64_w, i32_w]
                    rfl
                  refine pure_ (i := 11) (N := some 26) (v := ?_) (a' := ?_) #[true, true, true, true, true, true, true, true, true, true, true, true, false, false, false, false] rfl rfl (any_of HT_.out (by kernel_rfl)) (fun _ _ _ h => h) (Or.inl ⟨by rfl, ?_⟩) ?_ ?_
                  rotate_left
                  · intro w'
                    go_simp
                    with_reducible rfl
                  rotate_left
                  · simp only [Act.put, List.setIfInBounds_toArray, List.set_cons_zero, List.set_cons_succ, i64_w, i32_w]
                    rfl
                  refine pure_ (i := 12) (N := some 38) (v := ?_) (a' := ?_) #[true, true, true, true, true, true, true, true, true, true, true, true, true, false, false, false] rfl rfl (any_of HT_.out (by kernel_rfl)) (fun _ _ _ h => h) (Or.inl ⟨by rfl, ?_⟩) ?_ ?_
                  rotate_left
                  · intro w'
                    go_simp
                    with_reducible rfl
                  rotate_left
                  · simp only [Act.put, List.setIfInBounds_toArray, List.set_cons_zero, List.set_cons_succ, i64_w, i32_w]
                    rfl
                  refine pure_ (i := 13) (N := some 39) (v := ?_) (a' := ?_) #[true, true, true, true, true, true, true, true, true, true, true, true, true, true, false, false] rfl rfl (any_of HT_.out (by kernel_rfl)) (fun _ _ _ h => h) (Or.inl ⟨by rfl, ?_⟩) ?_ ?_
                  rotate_left
                  · intro w'
                    go_simp
                    with_reducible rfl
                  rotate_left
                  · simp only [Act.put, List.setIfInBounds_toArray, List.set_cons_zero, List.set_cons_succ, i64_w, i32_w]
                    rfl
                  refine pure_ (i := 14) (N := some 6) (v := ?_) (a' := ?_) #[true, true, true, true, true, true, true, true, true, true, true, true, true, true, true, false] rfl rfl (any_of HT_.out (by kernel_rfl)) (fun _ _ _ h => h) (Or.inl ⟨by rfl, ?_⟩) ?_ ?_
                  rotate_left
                  · intro w'
                    go_simp
                    with_reducible rfl
                  rotate_left
                  · simp only [Act.put, List.setIfInBounds_toArray, List.set_cons_zero, List.set_cons_succ, i64_w, i32_w]
                    rfl
                  refine pure_ (i := 15) (N := some 7) (v := ?_) (a' := ?_) #[true, true, true, true, true, true, true, true, true, true, true, true, true, true, true, true] rfl rfl (any_of HT_.out (by kernel_rfl)) (fun _ _ _ h => h) (Or.inl ⟨by rfl, ?_⟩) ?_ ?_
                  rotate_left
                  · intro w'
                    go_simp
                    with_reducible rfl
                  rotate_left
                  · simp only [Act.put, List.setIfInBounds_toArray, List.set_cons_zero, List.set_cons_succ, i64_w, i32_w]
                    rfl
                  refine done_ (done_of HT_.out (by kernel_rfl)) ?_
                  have p26007 : 0 ≤ (x4_1 : Int) := of_decide_eq_true (by first | (with_reducible assumption) | assumption)
                  have q26007 : x4_1 < (l0.length : Int) := of_decide_eq_true (by first | (with_reducible assumption) | assumption)
                  obtain ⟨ad26007, e26007, hx26007_0, hx26007_1⟩ := at_T40 HR0.out x4_1 p26007 q26007
                  obtain rfl : ad26001 = ad26007 := (by injection e26007)
                  replace hx26007_0 := (HB.out.cell (World.block_lt_of_cell? w _ hx26007_0)).trans hx26007_0
                  replace hx26007_1 := (HB.out.cell (World.block_lt_of_cell? w _ hx26007_1)).trans hx26007_1
                  replace p26007 := eq_true p26007
                  replace q26007 := eq_true q26007
                  try go_wp2_with (first | ((with_reducible refine gate_callee (f := 20) rfl ?_); refine goesL_ (some 46) rfl rfl Tryd.func20 (by kernel_rfl) rfl #[.string ((rd_T40 l0 x4_1).f0)] rfl (by (try simp only [List.map_toArray, List.map_cons, List.map_nil]); first | done | rfl | (simp only [List.length_drop, List.length_take]; rfl)) ?_; (with_reducible refine (tinderref19_Default.calls k1 ((rd_T40 l0 x4_1).f0) t26008 t26009 _ A7.out).mono ?_); rintro e w' ⟨rfl, ⟨nd, rfl⟩⟩; refine ⟨_, rfl, ?_⟩; have p26010 : 0 ≤ (x4_1 : Int) := of_decide_eq_true (by first | (with_reducible assumption) | assumption); have q26010 : x4_1 < (l0.length : Int) := of_decide_eq_true (by first | (with_reducible assumption) | assumption); obtain ⟨ad26010, e26010, hx26010_0, hx26010_1⟩ := at_T40 HR0.out x4_1 p26010 q26010; obtain rfl : ad26001 = ad26010 := (by injection e26010); replace hx26010_0 := (HB.out.cell (World.block_lt_of_cell? w _ hx26010_0)).trans hx26010_0; replace hx26010_1 := (HB.out.cell (World.block_lt_of_cell? w _ hx26010_1)).trans hx26010_1; replace p26010 := eq_true p26010; replace q26010 := eq_true q26010))
                  go_roundg k1
                  case measure => have := HK1.out; omega
                  case rel => exact ⟨(t26002), (wrap64 (x4_1 + 1)), (by first | rfl | (simp; done) | (simp [*]; done)), (by first | rfl | (simp; done) | (simp [*]; done)), H', ⟨by have := HK1.out; omega⟩, ⟨by repeat (first | (with_reducible first | exact HB.out | apply below_alloc | apply pw_below_drewN | apply below_drew1) | exact HB.out)⟩⟩
              · rw [if_neg c9] at H
                have c9b0 : (t26005.toList == ((rd_T40 l0 x4_1).f1).toList) = false := beq_eq_false_iff_ne.mpr c9
                have c9b1 : (t26005.toList != ((rd_T40 l0 x4_1).f1).toList) = true := bne_iff_ne.mpr c9
                obtain rfl := Option.some.inj H
                have p26001 : 0 ≤ (x4_1 : Int) := of_decide_eq_true (by first | (with_reducible assumption) | assumption)
                have q26001 : x4_1 < (l0.length : Int) := of_decide_eq_true (by first | (with_reducible assumption) | assumption)
                obtain ⟨ad26001, e26001, hx26001_0, hx26001_1⟩ := at_T40 HR0.out x4_1 p26001 q26001
                cases e26001
                replace hx26001_0 := (HB.out.cell (World.block_lt_of_cell? w _ hx26001_0)).trans hx26001_0
                replace hx26001_1 := (HB.out.cell (World.block_lt_of_cell? w _ hx26001_1)).trans hx26001_1
                replace p26001 := eq_true p26001
                replace q26001 := eq_true q26001
                try go_wp2_with (first | ((with_reducible refine gate_callee (f := 46) rfl ?_); refine goesL_ (some 21) rfl rfl Tryd.func46 (by kernel_rfl) rfl #[.string ((rd_T40 l0 x4_1).f0)] rfl (by (try simp only [List.map_toArray, List.map_cons, List.map_nil]); first | done | rfl | (simp only [List.length_drop, List.length_take]; rfl)) ?_; (with_reducible refine (tinderref19_find.calls k1 ((rd_T40 l0 x4_1).f0) t26002 _ A4.out).mono ?_); rintro e w' ⟨rfl, ⟨nd, rfl⟩⟩; refine ⟨_, rfl, ?_⟩))
                (try (rw [drewN_self wr]; generalize hq_ : World.drewN wr _ = wr; have n0_ : Aside0 (Below w.heap.size w wr) := ⟨by rw [← hq_]; exact (by repeat (first | (with_reducible first | exact HB.out | apply below_alloc | apply pw_below_drewN | apply below_drew1) | exact HB.out))⟩; clear HB hq_; have HB := n0_; clear n0_))
                have n0_ := Aside0.mk (below_drew1 HB.out)
                clear HB
                have HB := n0_
                clear n0_
                have p26003 : 0 ≤ (x4_1 : Int) := of_decide_eq_true (by first | (with_reducible assumption) | assumption)
                have q26003 : x4_1 < (l0.length : Int) := of_decide_eq_true (by first | (with_reducible assumption) | assumption)
                obtain ⟨ad26003, e26003, hx26003_0, hx26003_1⟩ := at_T40 HR0.out x4_1 p26003 q26003
                have hw26003_1 := hx26003_1
                have hw26003_0 := hx26003_0
                obtain rfl : ad26001 = ad26003 := (by injection e26003)
                replace hx26003_0 := (HB.out.cell (World.block_lt_of_cell? w _ hx26003_0)).trans hx26003_0
                replace hx26003_1 := (HB.out.cell (World.block_lt_of_cell? w _ hx26003_1)).trans hx26003_1
                replace p26003 := eq_true p26003
                replace q26003 := eq_true q26003
                have p26004 : 0 ≤ (x4_1 : Int) := of_decide_eq_true (by first | (with_reducible assumption) | assumption)
                have q26004 : x4_1 < (l0.length : Int) := of_decide_eq_true (by first | (with_reducible assumption) | assumption)
                obtain ⟨ad26004, e26004, hx26004_0, hx26004_1⟩ := at_T40 HR0.out x4_1 p26004 q26004
                have hw26004_1 := hx26004_1
                have hw26004_0 := hx26004_0
                obtain rfl : ad26001 = ad26004 := (by injection e26004)
                replace hx26004_0 := (HB.out.cell (World.block_lt_of_cell? w _ hx26004_0)).trans hx26004_0
                replace hx26004_1 := (HB.out.cell (World.block_lt_of_cell? w _ hx26004_1)).trans hx26004_1
                replace p26004 := eq_true p26004
                replace q26004 := eq_true q26004
                refine start_ (n := 16) (S := fun w' => w'.cell? (ad26001.add ((x4_1).toNat * 2)) = some (.string ((rd_T40 l0 x4_1).f0)) ∧ w'.cell? ⟨(ad26001.add ((x4_1).toNat * 2)).block, (ad26001.add ((x4_1).toNat * 2)).off + 1, none⟩ = some (.string ((rd_T40 l0 x4_1).f1)) ∧ w'.cell? (ad26001.add ((x4_1).toNat * 2)) = some (.string ((rd_T40 l0 x4_1).f0)) ∧ w'.cell? ⟨(ad26001.add ((x4_1).toNat * 2)).block, (ad26001.add ((x4_1).toNat * 2)).off + 1, none⟩ = some (.string ((rd_T40 l0 x4_1).f1))) (ds := []) #[false, false, false, false, false, false, false, false, false, false, false, false, false, false, false, false] (by kernel_rfl) rfl rfl ⟨((HB.out.cell (World.block_lt_of_cell? w _ hw26003_0)).trans hw26003_0), ((HB.out.cell (World.block_lt_of_cell? w _ hw26003_1)).trans hw26003_1), ((HB.out.cell (World.block_lt_of_cell? w _ hw26004_0)).trans hw26004_0), ((HB.out.cell (World.block_lt_of_cell? w _ hw26004_1)).trans hw26004_1)⟩ (fun hHeld => ?_); refine with_tabW tinderref19_Right.tab9 tinderref19_Right.bits9 (fun HT_ HW_ => ?_)
                generalize wr.drew = w15 at HB hx26003_0 hx26003_1 hx26004_0 hx26004_1 hHeld ⊢
                refine pure_ (i := 0) (N := some 27) (v := ?_) (a' := ?_) #[true, false, false, false, false, false, false, false, false, false, false, false, false, false, false, false] rfl rfl (any_of HT_.out (by kernel_rfl)) (fun _ _ _ h => h) (Or.inl ⟨by rfl, ?_⟩) ?_ ?_
                rotate_left
                · intro w'
                  go_simp
                  with_reducible rfl
                rotate_left
                · simp only [Act.put, List.setIfInBounds_toArray, List.set_cons_zero, List.set_cons_succ, i64_w, i32_w]
                  rfl
                refine pure_ (i := 1) (N := some 28) (v := ?_) (a' := ?_) #[true, true, false, false, false, false, false, false, false, false, false, false, false, false, false, false] rfl rfl (any_of HT_.out (by kernel_rfl)) (fun _ _ _ h => h) (Or.inl ⟨by rfl, ?_⟩) ?_ ?_
                rotate_left
                · intro w'
                  go_simp
                  with_reducible rfl
                rotate_left
                · simp only [Act.put, List.setIfInBounds_toArray, List.set_cons_zero, List.set_cons_succ, i64_w, i32_w]
                  rfl
                refine pure_ (i := 2) (N := some 29) (v := ?_) (a' := ?_) #[true, true, true, false, false, false, false, false, false, false, false, false, false, false, false, false] rfl rfl (any_of HT_.out (by kernel_rfl)) (fun _ _ _ h => h) (Or.inl ⟨by rfl, ?_⟩) ?_ ?_
                rotate_left
                · intro w'
                  go_simp
                  with_reducible rfl
                rotate_left
                · simp only [Act.put, List.setIfInBounds_toArray, List.set_cons_zero, List.set_cons_succ, i64_w, i32_w]
                  rfl
                refine pure_ (i := 3) (N := some 30) (v := ?_) (a' := ?_) #[true, true, true, true, false, false, false, false, false, false, false, false, false, false, false, false] rfl rfl (any_of HT_.out (by kernel_rfl)) (fun _ _ _ h => h) (Or.inl ⟨by rfl, ?_⟩) ?_ ?_
                rotate_left
                · intro w'
                  go_simp
                  with_reducible rfl
                rotate_left
                · simp only [Act.put, List.setIfInBounds_toArray, List.set_cons_zero, List.set_cons_succ, i64_w, i32_w]
                  rfl
                refine pure_ (i := 5) (N := some 32) (v := ?_) (a' := ?_) #[true, true, true, true, false, true, false, false, false, false, false, false, false, false, false, false] rfl rfl (any_of HT_.out (by kernel_rfl)) (fun _ _ _ h => h) (Or.inl ⟨by rfl, ?_⟩) ?_ ?_
                rotate_left
                · intro w'
                  go_simp
                  with_reducible rfl
                rotate_left
                · simp only [Act.put, List.setIfInBounds_toArray, List.set_cons_zero, List.set_cons_succ, i64_w, i32_w]
                  rfl
                refine pure_ (i := 6) (N := some 33) (v := ?_) (a' := ?_) #[true, true, true, true, false, true, true, false, false, false, false, false, false, false, false, false] rfl rfl (any_of HT_.out (by kernel_rfl)) (fun _ _ _ h => h) (Or.inl ⟨by rfl, ?_⟩) ?_ ?_
                rotate_left
                · intro w'
                  go_simp
                  with_reducible rfl
                rotate_left
                · simp only [Act.put, List.setIfInBounds_toArray, List.set_cons_zero, List.set_cons_succ, i64_w, i32_w]
                  rfl
                refine pure_ (i := 7) (N := some 34) (v := ?_) (a' := ?_) #[true, true, true, true, false, true, true, true, false, false, false, false, false, false, false, false] rfl rfl (any_of HT_.out (by kernel_rfl)) (fun _ _ _ h => h) (Or.inl ⟨by rfl, ?_⟩) ?_ ?_
                rotate_left
                · intro w'
                  go_simp
                  with_reducible rfl
                rotate_left
                · simp only [Act.put, List.setIfInBounds_toArray, List.set_cons_zero, List.set_cons_succ, i64_w, i32_w]
                  rfl
                refine pure_ (i := 8) (N := some 35) (v := ?_) (a' := ?_) #[true, true, true, true, false, true, true, true, true, false, false, false, false, false, false, false] rfl rfl (any_of HT_.out (by kernel_rfl)) (fun _ _ _ h => h) (Or.inl ⟨by rfl, ?_⟩) ?_ ?_
                rotate_left
                · intro w'
                  go_simp
                  with_reducible rfl
                rotate_left
                · simp only [Act.put, List.setIfInBounds_toArray, List.set_cons_zero, List.set_cons_succ, i64_w, i32_w]
                  rfl
                refine take_ (i := 4) (N := some 31) (v := ?_) (a' := ?_) #[true, true, true, true, true, true, true, true, true, false, false, false, false, false, false, false] rfl rfl (take_ofW HT_.out HW_.out (by kernel_rfl)) (fun _ _ _ h => h) (Or.inl ⟨by rfl, ?_⟩) hHeld ?_ ?_
                rotate_left
                · rintro w' ⟨s0, s1, s2, s3⟩
                  go_simp
                  with_reducible rfl
                rotate_left
                · simp only [Act.put, List.setIfInBounds_toArray, List.set_cons_zero, List.set_cons_succ, i64_w, i32_w]
                  rfl
                refine take_ (i := 9) (N := some 36) (v := ?_) (a' := ?_) #[true, true, true, true, true, true, true, true, true, true, false, false, false, false, false, false] rfl rfl (take_ofW HT_.out HW_.out (by kernel_rfl)) (fun _ _ _ h => h) (Or.inl ⟨by rfl, ?_⟩) hHeld ?_ ?_
                rotate_left
                · rintro w' ⟨s0, s1, s2, s3⟩
                  go_simp
                  with_reducible rfl
                rotate_left
                · simp only [Act.put, List.setIfInBounds_toArray, List.set_cons_zero, List.set_cons_succ, i64_w, i32_w]
                  rfl
                refine one_ (i := 10) (N := some 37) #[true, true, true, true, true, true, true, true, true, true, true, false, false, false, false, false] rfl rfl (one_of HT_.out (by kernel_rfl)) (by decide) (fun K hK => ?_)
                refine goes_ Tryd.func18 (by kernel_rfl) rfl #[.string ((rd_T40 l0 x4_1).f0), .string ((rd_T40 l0 x4_1).f1)] (by rfl) rfl rfl (by (try simp only [List.map_toArray, List.map_cons, List.map_nil]); first | done | rfl | (simp only [List.length_drop, List.length_take]; rfl)) ?_
                with_reducible refine (tinderref19_Form.calls k1 ((rd_T40 l0 x4_1).f0) ((rd_T40 l0 x4_1).f1) t26005 t26006 _ A6.out).mono ?_
                rintro e w16 ⟨rfl, hb⟩
                refine ⟨_, rfl, ?_⟩
                have n0_ := Aside0.mk (below_step (by repeat (first | (with_reducible first | exact HB.out | apply below_alloc | apply pw_below_drewN | apply below_drew1) | exact HB.out)) hb)
                clear HB
                have HB := n0_
                clear n0_
                (try clear hb)
                (try clear hb2)
                (try clear hk)
                (try clear hi)
                refine hK.out _ _ ⟨((HB.out.cell (World.block_lt_of_cell? w _ hw26003_0)).trans hw26003_0), ((HB.out.cell (World.block_lt_of_cell? w _ hw26003_1)).trans hw26003_1), ((HB.out.cell (World.block_lt_of_cell? w _ hw26004_0)).trans hw26004_0), ((HB.out.cell (World.block_lt_of_cell? w _ hw26004_1)).trans hw26004_1)⟩ (fun hHeld => ?_)
                clear hK K
                refine norm_ (a' := ?_) ?_ ?_
                rotate_left
                · show Act.put _ (some 37) _ = _
                  simp only [Act.put, List.setIfInBounds_toArray, List.set_cons_zero, List.set_cons_succ, i64_w, i32_w]
                  rfl
                refine pure_ (i := 11) (N := some 26) (v := ?_) (a' := ?_) #[true, true, true, true, true, true, true, true, true, true, true, true, false, false, false, false] rfl rfl (any_of HT_.out (by kernel_rfl)) (fun _ _ _ h => h) (Or.inl ⟨by rfl, ?_⟩) ?_ ?_
                rotate_left
                · intro w'
                  go_simp
                  with_reducible rfl
                rotate_left
                · simp only [Act.put, List.setIfInBounds_toArray, List.set_cons_zero, List.set_cons_succ, i64_w, i32_w]
                  rfl
                refine pure_ (i := 12) (N := some 38) (v := ?_) (a' := ?_) #[true, true, true, true, true, true, true, true, true, true, true, true, true, false, false, false] rfl rfl (any_of HT_.out (by kernel_rfl)) (fun _ _ _ h => h) (Or.inl ⟨by rfl, ?_⟩) ?_ ?_
                rotate_left
                · intro w'
                  go_simp
                  with_reducible rfl
                rotate_left
                · simp only [Act.put, List.setIfInBounds_toArray, List.set_cons_zero, List.set_cons_succ, i64_w, i32_w]
                  rfl
                refine pure_ (i := 13) (N := some 39) (v := ?_) (a' := ?_) #[true, true, true, true, true, true, true, true, true, true, true, true, true, true, false, false] rfl rfl (any_of HT_.out (by kernel_rfl)) (fun _ _ _ h => h) (Or.inl ⟨by rfl, ?_⟩) ?_ ?_
                rotate_left
                · intro w'
                  go_simp
                  with_reducible rfl
                rotate_left
                · simp only [Act.put, List.setIfInBounds_toArray, List.set_cons_zero, List.set_cons_succ, i64_w, i32_w]
                  rfl
                refine pure_ (i := 14) (N := some 6) (v := ?_) (a' := ?_) #[true, true, true, true, true, true, true, true, true, true, true, true, true, true, true, false] rfl rfl (any_of HT_.out (by kernel_rfl)) (fun _ _ _ h => h) (Or.inl ⟨by rfl, ?_⟩) ?_ ?_
                rotate_left
                · intro w'
                  go_simp
                  with_reducible rfl
                rotate_left
                · simp only [Act.put, List.setIfInBounds_toArray, List.set_cons_zero, List.set_cons_succ, i64_w, i32_w]
                  rfl
                refine pure_ (i := 15) (N := some 7) (v := ?_) (a' := ?_) #[true, true, true, true, true, true, true, true, true, true, true, true, true, true, true, true] rfl rfl (any_of HT_.out (by kernel_rfl)) (fun _ _ _ h => h) (Or.inl ⟨by rfl, ?_⟩) ?_ ?_
                rotate_left
                · intro w'
                  go_simp
                  with_reducible rfl
                rotate_left
                · simp only [Act.put, List.setIfInBounds_toArray, List.set_cons_zero, List.set_cons_succ, i64_w, i32_w]
                  rfl
                refine done_ (done_of HT_.out (by kernel_rfl)) ?_
                have p26007 : 0 ≤ (x4_1 : Int) := of_decide_eq_true (by first | (with_reducible assumption) | assumption)
                have q26007 : x4_1 < (l0.length : Int) := of_decide_eq_true (by first | (with_reducible assumption) | assumption)
                obtain ⟨ad26007, e26007, hx26007_0, hx26007_1⟩ := at_T40 HR0.out x4_1 p26007 q26007
                obtain rfl : ad26001 = ad26007 := (by injection e26007)
                replace hx26007_0 := (HB.out.cell (World.block_lt_of_cell? w _ hx26007_0)).trans hx26007_0
                replace hx26007_1 := (HB.out.cell (World.block_lt_of_cell? w _ hx26007_1)).trans hx26007_1
                replace p26007 := eq_true p26007
                replace q26007 := eq_true q26007
                try go_wp2_with (first | ((with_reducible refine gate_callee (f := 20) rfl ?_); refine goesL_ (some 46) rfl rfl Tryd.func20 (by kernel_rfl) rfl #[.string ((rd_T40 l0 x4_1).f0)] rfl (by (try simp only [List.map_toArray, List.map_cons, List.map_nil]); first | done | rfl | (simp only [List.length_drop, List.length_take]; rfl)) ?_; (with_reducible refine (tinderref19_Default.calls k1 ((rd_T40 l0 x4_1).f0) t26008 t26009 _ A7.out).mono ?_); rintro e w' ⟨rfl, ⟨nd, rfl⟩⟩; refine ⟨_, rfl, ?_⟩; have p26010 : 0 ≤ (x4_1 : Int) := of_decide_eq_true (by first | (with_reducible assumption) | assumption); have q26010 : x4_1 < (l0.length : Int) := of_decide_eq_true (by first | (with_reducible assumption) | assumption); obtain ⟨ad26010, e26010, hx26010_0, hx26010_1⟩ := at_T40 HR0.out x4_1 p26010 q26010; obtain rfl : ad26001 = ad26010 := (by injection e26010); replace hx26010_0 := (HB.out.cell (World.block_lt_of_cell? w _ hx26010_0)).trans hx26010_0; replace hx26010_1 := (HB.out.cell (World.block_lt_of_cell? w _ hx26010_1)).trans hx26010_1; replace p26010 := eq_true p26010; replace q26010 := eq_true q26010))
                go_ret
                exact ⟨by first | rfl | (simp [errW_none, errW_some] <;> rfl) | (simp [*, errW_none, errW_some] <;> rfl), by repeat (first | (with_reducible first | exact HB.out | apply below_alloc | apply pw_below_drewN | apply below_drew1) | exact HB.out)⟩
            · rw [if_neg c8] at H
              have c8b0 : (t26006 == 0) = false := beq_eq_false_iff_ne.mpr c8
              have c8b1 : (t26006 != 0) = true := bne_iff_ne.mpr c8
              obtain rfl := Option.some.inj H
              have p26001 : 0 ≤ (x4_1 : Int) := of_decide_eq_true (by first | (with_reducible assumption) | assumption)
              have q26001 : x4_1 < (l0.length : Int) := of_decide_eq_true (by first | (with_reducible assumption) | assumption)
              obtain ⟨ad26001, e26001, hx26001_0, hx26001_1⟩ := at_T40 HR0.out x4_1 p26001 q26001
              cases e26001
              replace hx26001_0 := (HB.out.cell (World.block_lt_of_cell? w _ hx26001_0)).trans hx26001_0
              replace hx26001_1 := (HB.out.cell (World.block_lt_of_cell? w _ hx26001_1)).trans hx26001_1
              replace p26001 := eq_true p26001
              replace q26001 := eq_true q26001
              try go_wp2_with (first | ((with_reducible refine gate_callee (f := 46) rfl ?_); refine goesL_ (some 21) rfl rfl Tryd.func46 (by kernel_rfl) rfl #[.string ((rd_T40 l0 x4_1).f0)] rfl (by (try simp only [List.map_toArray, List.map_cons, List.map_nil]); first | done | rfl | (simp only [List.length_drop, List.length_take]; rfl)) ?_; (with_reducible refine (tinderref19_find.calls k1 ((rd_T40 l0 x4_1).f0) t26002 _ A4.out).mono ?_); rintro e w' ⟨rfl, ⟨nd, rfl⟩⟩; refine ⟨_, rfl, ?_⟩))
              (try (rw [drewN_self wr]; generalize hq_ : World.drewN wr _ = wr; have n0_ : Aside0 (Below w.heap.size w wr) := ⟨by rw [← hq_]; exact (by repeat (first | (with_reducible first | exact HB.out | apply below_alloc | apply pw_below_drewN | apply below_drew1) | exact HB.out))⟩; clear HB hq_; have HB := n0_; clear n0_))
              have n0_ := Aside0.mk (below_drew1 HB.out)
              clear HB
              have HB := n0_
              clear n0_
              have p26003 : 0 ≤ (x4_1 : Int) := of_decide_eq_true (by first | (with_reducible assumption) | assumption)
              have q26003 : x4_1 < (l0.length : Int) := of_decide_eq_true (by first | (with_reducible assumption) | assumption)
              obtain ⟨ad26003, e26003, hx26003_0, hx26003_1⟩ := at_T40 HR0.out x4_1 p26003 q26003
              have hw26003_1 := hx26003_1
              have hw26003_0 := hx26003_0
              obtain rfl : ad26001 = ad26003 := (by injection e26003)
              replace hx26003_0 := (HB.out.cell (World.block_lt_of_cell? w _ hx26003_0)).trans hx26003_0
              replace hx26003_1 := (HB.out.cell (World.block_lt_of_cell? w _ hx26003_1)).trans hx26003_1
              replace p26003 := eq_true p26003
              replace q26003 := eq_true q26003
              have p26004 : 0 ≤ (x4_1 : Int) := of_decide_eq_true (by first | (with_reducible assumption) | assumption)
              have q26004 : x4_1 < (l0.length : Int) := of_decide_eq_true (by first | (with_reducible assumption) | assumption)
              obtain ⟨ad26004, e26004, hx26004_0, hx26004_1⟩ := at_T40 HR0.out x4_1 p26004 q26004
              have hw26004_1 := hx26004_1
              have hw26004_0 := hx26004_0
              obtain rfl : ad26001 = ad26004 := (by injection e26004)
              replace hx26004_0 := (HB.out.cell (World.block_lt_of_cell? w _ hx26004_0)).trans hx26004_0
              replace hx26004_1 := (HB.out.cell (World.block_lt_of_cell? w _ hx26004_1)).trans hx26004_1
              replace p26004 := eq_true p26004
              replace q26004 := eq_true q26004
              refine start_ (n := 16) (S := fun w' => w'.cell? (ad26001.add ((x4_1).toNat * 2)) = some (.string ((rd_T40 l0 x4_1).f0)) ∧ w'.cell? ⟨(ad26001.add ((x4_1).toNat * 2)).block, (ad26001.add ((x4_1).toNat * 2)).off + 1, none⟩ = some (.string ((rd_T40 l0 x4_1).f1)) ∧ w'.cell? (ad26001.add ((x4_1).toNat * 2)) = some (.string ((rd_T40 l0 x4_1).f0)) ∧ w'.cell? ⟨(ad26001.add ((x4_1).toNat * 2)).block, (ad26001.add ((x4_1).toNat * 2)).off + 1, none⟩ = some (.string ((rd_T40 l0 x4_1).f1))) (ds := []) #[false, false, false, false, false, false, false, false, false, false, false, false, false, false, false, false] (by kernel_rfl) rfl rfl ⟨((HB.out.cell (World.block_lt_of_cell? w _ hw26003_0)).trans hw26003_0), ((HB.out.cell (World.block_lt_of_cell? w _ hw26003_1)).trans hw26003_1), ((HB.out.cell (World.block_lt_of_cell? w _ hw26004_0)).trans hw26004_0), ((HB.out.cell (World.block_lt_of_cell? w _ hw26004_1)).trans hw26004_1)⟩ (fun hHeld => ?_); refine with_tabW tinderref19_Right.tab9 tinderref19_Right.bits9 (fun HT_ HW_ => ?_)
              generalize wr.drew = w17 at HB hx26003_0 hx26003_1 hx26004_0 hx26004_1 hHeld ⊢
              refine pure_ (i := 0) (N := some 27) (v := ?_) (a' := ?_) #[true, false, false, false, false, false, false, false, false, false, false, false, false, false, false, false] rfl rfl (any_of HT_.out (by kernel_rfl)) (fun _ _ _ h => h) (Or.inl ⟨by rfl, ?_⟩) ?_ ?_
              rotate_left
              · intro w'
                go_simp
                with_reducible rfl
              rotate_left
              · simp only [Act.put, List.setIfInBounds_toArray, List.set_cons_zero, List.set_cons_succ, i64_w, i32_w]
                rfl
              refine pure_ (i := 1) (N := some 28) (v := ?_) (a' := ?_) #[true, true, false, false, false, false, false, false, false, false, false, false, false, false, false, false] rfl rfl (any_of HT_.out (by kernel_rfl)) (fun _ _ _ h => h) (Or.inl ⟨by rfl, ?_⟩) ?_ ?_
              rotate_left
              · intro w'
                go_simp
                with_reducible rfl
              rotate_left
              · simp only [Act.put, List.setIfInBounds_toArray, List.set_cons_zero, List.set_cons_succ, i64_w, i32_w]
                rfl
              refine pure_ (i := 2) (N := some 29) (v := ?_) (a' := ?_) #[true, true, true, false, false, false, false, false, false, false, false, false, false, false, false, false] rfl rfl (any_of HT_.out (by kernel_rfl)) (fun _ _ _ h => h) (Or.inl ⟨by rfl, ?_⟩) ?_ ?_
              rotate_left
              · intro w'
                go_simp
                with_reducible rfl
              rotate_left
              · simp only [Act.put, List.setIfInBounds_toArray, List.set_cons_zero, List.set_cons_succ, i64_w, i32_w]
                rfl
              refine pure_ (i := 3) (N := some 30) (v := ?_) (a' := ?_) #[true, true, true, true, false, false, false, false, false, false, false, false, false, false, false, false] rfl rfl (any_of HT_.out (by kernel_rfl)) (fun _ _ _ h => h) (Or.inl ⟨by rfl, ?_⟩) ?_ ?_
              rotate_left
              · intro w'
                go_simp
                with_reducible rfl
              rotate_left
              · simp only [Act.put, List.setIfInBounds_toArray, List.set_cons_zero, List.set_cons_succ, i64_w, i32_w]
                rfl
              refine pure_ (i := 5) (N := some 32) (v := ?_) (a' := ?_) #[true, true, true, true, false, true, false, false, false, false, false, false, false, false, false, false] rfl rfl (any_of HT_.out (by kernel_rfl)) (fun _ _ _ h => h) (Or.inl ⟨by rfl, ?_⟩) ?_ ?_
              rotate_left
              · intro w'
                go_simp
                with_reducible rfl
              rotate_left
              · simp only [Act.put, List.setIfInBounds_toArray, List.set_cons_zero, List.set_cons_succ, i64_w, i32_w]
                rfl
              refine pure_ (i := 6) (N := some 33) (v := ?_) (a' := ?_) #[true, true, true, true, false, true, true, false, false, false, false, false, false, false, false, false] rfl rfl (any_of HT_.out (by kernel_rfl)) (fun _ _ _ h => h) (Or.inl ⟨by rfl, ?_⟩) ?_ ?_
              rotate_left
              · intro w'
                go_simp
                with_reducible rfl
              rotate_left
              · simp only [Act.put, List.setIfInBounds_toArray, List.set_cons_zero, List.set_cons_succ, i64_w, i32_w]
                rfl
              refine pure_ (i := 7) (N := some 34) (v := ?_) (a' := ?_) #[true, true, true, true, false, true, true, true, false, false, false, false, false, false, false, false] rfl rfl (any_of HT_.out (by kernel_rfl)) (fun _ _ _ h => h) (Or.inl ⟨by rfl, ?_⟩) ?_ ?_
              rotate_left
              · intro w'
                go_simp
                with_reducible rfl
              rotate_left
              · simp only [Act.put, List.setIfInBounds_toArray, List.set_cons_zero, List.set_cons_succ, i64_w, i32_w]
                rfl
              refine pure_ (i := 8) (N := some 35) (v := ?_) (a' := ?_) #[true, true, true, true, false, true, true, true, true, false, false, false, false, false, false, false] rfl rfl (any_of HT_.out (by kernel_rfl)) (fun _ _ _ h => h) (Or.inl ⟨by rfl, ?_⟩) ?_ ?_
              rotate_left
              · intro w'
                go_simp
                with_reducible rfl
              rotate_left
              · simp only [Act.put, List.setIfInBounds_toArray, List.set_cons_zero, List.set_cons_succ, i64_w, i32_w]
                rfl
              refine take_ (i := 4) (N := some 31) (v := ?_) (a' := ?_) #[true, true, true, true, true, true, true, true, true, false, false, false, false, false, false, false] rfl rfl (take_ofW HT_.out HW_.out (by kernel_rfl)) (fun _ _ _ h => h) (Or.inl ⟨by rfl, ?_⟩) hHeld ?_ ?_
              rotate_left
              · rintro w' ⟨s0, s1, s2, s3⟩
                go_simp
                with_reducible rfl
              rotate_left
              · simp only [Act.put, List.setIfInBounds_toArray, List.set_cons_zero, List.set_cons_succ, i64_w, i32_w]
                rfl
              refine take_ (i := 9) (N := some 36) (v := ?_) (a' := ?_) #[true, true, true, true, true, true, true, true, true, true, false, false, false, false, false, false] rfl rfl (take_ofW HT_.out HW_.out (by kernel_rfl)) (fun _ _ _ h => h) (Or.inl ⟨by rfl, ?_⟩) hHeld ?_ ?_
              rotate_left
              · rintro w' ⟨s0, s1, s2, s3⟩
                go_simp
                with_reducible rfl
              rotate_left
              · simp only [Act.put, List.setIfInBounds_toArray, List.set_cons_zero, List.set_cons_succ, i64_w, i32_w]
                rfl
              refine one_ (i := 10) (N := some 37) #[true, true, true, true, true, true, true, true, true, true, true, false, false, false, false, false] rfl rfl (one_of HT_.out (by kernel_rfl)) (by decide) (fun K hK => ?_)
              refine goes_ Tryd.func18 (by kernel_rfl) rfl #[.string ((rd_T40 l0 x4_1).f0), .string ((rd_T40 l0 x4_1).f1)] (by rfl) rfl rfl (by (try simp only [List.map_toArray, List.map_cons, List.map_nil]); first | done | rfl | (simp only [List.length_drop, List.length_take]; rfl)) ?_
              with_reducible refine (tinderref19_Form.calls k1 ((rd_T40 l0 x4_1).f0) ((rd_T40 l0 x4_1).f1) t26005 t26006 _ A6.out).mono ?_
              rintro e w18 ⟨rfl, hb⟩
              refine ⟨_, rfl, ?_⟩
              have n0_ := Aside0.mk (below_step (by repeat (first | (with_reducible first | exact HB.out | apply below_alloc | apply pw_below_drewN | apply below_drew1) | exact HB.out)) hb)
              clear HB
              have HB := n0_
              clear n0_
              (try clear hb)
              (try clear hb2)
              (try clear hk)
              (try clear hi)
              refine hK.out _ _ ⟨((HB.out.cell (World.block_lt_of_cell? w _ hw26003_0)).trans hw26003_0), ((HB.out.cell (World.block_lt_of_cell? w _ hw26003_1)).trans hw26003_1), ((HB.out.cell (World.block_lt_of_cell? w _ hw26004_0)).trans hw26004_0), ((HB.out.cell (World.block_lt_of_cell? w _ hw26004_1)).trans hw26004_1)⟩ (fun hHeld => ?_)
              clear hK K
              refine norm_ (a' := ?_) ?_ ?_
              rotate_left
              · show Act.put _ (some 37) _ = _
                simp only [Act.put, List.setIfInBounds_toArray, List.set_cons_zero, List.set_cons_succ, i64_w, i32_w]
                rfl
              refine pure_ (i := 11) (N := some 26) (v := ?_) (a' := ?_) #[true, true, true, true, true, true, true, true, true, true, true, true, false, false, false, false] rfl rfl (any_of HT_.out (by kernel_rfl)) (fun _ _ _ h => h) (Or.inl ⟨by rfl, ?_⟩) ?_ ?_
              rotate_left
              · intro w'
                go_simp
                with_reducible rfl
              rotate_left
              · simp only [Act.put, List.setIfInBounds_toArray, List.set_cons_zero, List.set_cons_succ, i64_w, i32_w]
                rfl
              refine pure_ (i := 12) (N := some 38) (v := ?_) (a' := ?_) #[true, true, true, true, true, true, true, true, true, true, true, true, true, false, false, false] rfl rfl (any_of HT_.out (by kernel_rfl)) (fun _ _ _ h => h) (Or.inl ⟨by rfl, ?_⟩) ?_ ?_
              rotate_left
              · intro w'
                go_simp
                with_reducible rfl
              rotate_left
              · simp only [Act.put, List.setIfInBounds_toArray, List.set_cons_zero, List.set_cons_succ, i64_w, i32_w]
                rfl
              refine pure_ (i := 13) (N := some 39) (v := ?_) (a' := ?_) #[true, true, true, true, true, true, true, true, true, true, true, true, true, true, false, false] rfl rfl (any_of HT_.out (by kernel_rfl)) (fun _ _ _ h => h) (Or.inl ⟨by rfl, ?_⟩) ?_ ?_
              rotate_left
              · intro w'
                go_simp
                with_reducible rfl
              rotate_left
              · simp only [Act.put, List.setIfInBounds_toArray, List.set_cons_zero, List.set_cons_succ, i64_w, i32_w]
                rfl
              refine pure_ (i := 14) (N := some 6) (v := ?_) (a' := ?_) #[true, true, true, true, true, true, true, true, true, true, true, true, true, true, true, false] rfl rfl (any_of HT_.out (by kernel_rfl)) (fun _ _ _ h => h) (Or.inl ⟨by rfl, ?_⟩) ?_ ?_
              rotate_left
              · intro w'
                go_simp
                with_reducible rfl
              rotate_left
              · simp only [Act.put, List.setIfInBounds_toArray, List.set_cons_zero, List.set_cons_succ, i64_w, i32_w]
                rfl
              refine pure_ (i := 15) (N := some 7) (v := ?_) (a' := ?_) #[true, true, true, true, true, true, true, true, true, true, true, true, true, true, true, true] rfl rfl (any_of HT_.out (by kernel_rfl)) (fun _ _ _ h => h) (Or.inl ⟨by rfl, ?_⟩) ?_ ?_
              rotate_left
              · intro w'
                go_simp
                with_reducible rfl
              rotate_left
              · simp only [Act.put, List.setIfInBounds_toArray, List.set_cons_zero, List.set_cons_succ, i64_w, i32_w]
                rfl
              refine done_ (done_of HT_.out (by kernel_rfl)) ?_
              have p26007 : 0 ≤ (x4_1 : Int) := of_decide_eq_true (by first | (with_reducible assumption) | assumption)
              have q26007 : x4_1 < (l0.length : Int) := of_decide_eq_true (by first | (with_reducible assumption) | assumption)
              obtain ⟨ad26007, e26007, hx26007_0, hx26007_1⟩ := at_T40 HR0.out x4_1 p26007 q26007
              obtain rfl : ad26001 = ad26007 := (by injection e26007)
              replace hx26007_0 := (HB.out.cell (World.block_lt_of_cell? w _ hx26007_0)).trans hx26007_0
              replace hx26007_1 := (HB.out.cell (World.block_lt_of_cell? w _ hx26007_1)).trans hx26007_1
              replace p26007 := eq_true p26007
              replace q26007 := eq_true q26007
              try go_wp2_with (first | ((with_reducible refine gate_callee (f := 20) rfl ?_); refine goesL_ (some 46) rfl rfl Tryd.func20 (by kernel_rfl) rfl #[.string ((rd_T40 l0 x4_1).f0)] rfl (by (try simp only [List.map_toArray, List.map_cons, List.map_nil]); first | done | rfl | (simp only [List.length_drop, List.length_take]; rfl)) ?_; (with_reducible refine (tinderref19_Default.calls k1 ((rd_T40 l0 x4_1).f0) t26008 t26009 _ A7.out).mono ?_); rintro e w' ⟨rfl, ⟨nd, rfl⟩⟩; refine ⟨_, rfl, ?_⟩))
              go_ret
              exact ⟨by first | rfl | (simp [errW_none, errW_some] <;> rfl) | (simp [*, errW_none, errW_some] <;> rfl), by repeat (first | (with_reducible first | exact HB.out | apply below_alloc | apply pw_below_drewN | apply below_drew1) | exact HB.out)⟩
        · rw [if_neg c3] at H
          exact absurd H (by simp)
      · rw [if_neg c2] at H
        have c2b0 : decide (x4_1 < (l0.length : Int)) = false := decide_eq_false c2
        clear c2
        obtain rfl := Option.some.inj H
        go_wp2
        go_ret
        exact ⟨by first | rfl | (simp [errW_none, errW_some] <;> rfl) | (simp [*, errW_none, errW_some] <;> rfl), by repeat (first | (with_reducible first | exact HB.out | apply below_alloc | apply pw_below_drewN | apply below_drew1) | exact HB.out)⟩

end Go.Proofs.YtefhngadeimklaaDoor.Q
end
section
set_option linter.unusedSimpArgs false
set_option linter.unusedVariables false
namespace Go.Proofs.YtefhngadeimklaaDoor.Q
open Go.RowKit Go.Proofs.YtefhngadeimklaaDoorW.PrintWords Go.Proofs.YtefhngadeimklaaDoorW.PrintLast
def vars9 : List S57 := (vars_all.f).getD []
theorem vars9_eq : vars_all.f = some vars9 := rfl
theorem vars9_len : vars9.length = 9 := rfl
def nmV (i : Int) : ByteArray := (rd_T57 vars9 i).f0
def kdV (i : Int) : Int := (rd_T57 vars9 i).f1
def stV (i : Int) : ByteArray := (rd_T57 vars9 i).f2
def rkV (i : Int) : Int := if kdV i = 0 then 98 else if kdV i = 1 then 110 else 116
theorem variable_eq (i : Int) (h : 0 ≤ i ∧ i < 9) : tinderref19_Variable.f i = some (nmV i, rkV i, stV i) := by
  obtain h | h | h | h | h | h | h | h | h : i = 0 ∨ i = 1 ∨ i = 2 ∨ i = 3 ∨ i = 4 ∨ i = 5 ∨ i = 6 ∨ i = 7 ∨ i = 8 := by omega
  all_goals (subst h; rfl)
theorem kd_range (i : Int) (h : 0 ≤ i ∧ i < 9) : kdV i = 0 ∨ kdV i = 1 ∨ kdV i = 2 := by
  obtain h | h | h | h | h | h | h | h | h : i = 0 ∨ i = 1 ∨ i = 2 ∨ i = 3 ∨ i = 4 ∨ i = 5 ∨ i = 6 ∨ i = 7 ∨ i = 8 := by omega
  all_goals (subst h; decide)
def fndG (s : ByteArray) : Nat → Int → Int
  | 0, _ => -1
  | d + 1, i => if (nmV i).toList = s.toList then i else fndG s d (i + 1)
def fndF (s : ByteArray) : Int := fndG s 9 0
theorem fndG_range (s : ByteArray) : ∀ (d : Nat) (i : Int), fndG s d i = -1 ∨ (i ≤ fndG s d i ∧ fndG s d i < i + d)
  | 0, _ => .inl rfl
  | d + 1, i => by
    unfold fndG
    split
    · exact .inr ⟨Int.le_refl _, by omega⟩
    · rcases fndG_range s d (i + 1) with h | h
      · exact .inl h
      · exact .inr ⟨by omega, by omega⟩
theorem fndG_name (s : ByteArray) : ∀ (d : Nat) (i : Int), 0 ≤ i → 0 ≤ fndG s d i → (nmV (fndG s d i)).toList = s.toList
  | 0, _, _, h => absurd h (by unfold fndG; decide)
  | d + 1, i, h0, h => by
    unfold fndG at h ⊢
    split
    · assumption
    · rename_i hn
      rw [if_neg hn] at h
      exact fndG_name s d (i + 1) (by omega) h
theorem fndG_congr {s t : ByteArray} (e : s.toList = t.toList) : ∀ (d : Nat) (i : Int), fndG s d i = fndG t d i
  | 0, _ => rfl
  | d + 1, i => by unfold fndG; rw [e, fndG_congr e d (i + 1)]
theorem fndF_congr {s t : ByteArray} (e : s.toList = t.toList) : fndF s = fndF t := fndG_congr e 9 0
theorem fndF_range (s : ByteArray) : -1 ≤ fndF s ∧ fndF s < 9 := by
  rcases fndG_range s 9 0 with h | h <;> unfold fndF <;> omega
def fndR (n : Int) : ByteArray × Int × ByteArray × Int × Bool := if 0 ≤ n then (nmV n, kdV n, stV n, n, true) else ((⟨#[]⟩ : ByteArray), 0, (⟨#[]⟩ : ByteArray), (-1), false)
theorem find_go (s : ByteArray) : ∀ (d k : Nat) (i : Int), 0 ≤ i → i + d = 9 → d < k → vars_find.l0 k s vars9 9 i = some (fndR (fndG s d i))
  | 0, k, i, h0, h1, hk => by
    obtain ⟨k, rfl⟩ : ∃ m, k = m + 1 := ⟨k - 1, by omega⟩
    rw [vars_find.l0, if_neg (by omega)]
    rfl
  | d + 1, k, i, h0, h1, hk => by
    obtain ⟨k, rfl⟩ : ∃ m, k = m + 1 := ⟨k - 1, by omega⟩
    have hw : wrap64 (i + 1) = i + 1 := by unfold wrap64; omega
    rw [vars_find.l0, if_pos (by omega), if_pos h0, if_pos (by rw [vars9_len]; omega), hw, find_go s d k (i + 1) (by omega) (by omega) (by omega), fndG]
    by_cases he : (nmV i).toList = s.toList
    · rw [if_pos he, show fndR i = (nmV i, kdV i, stV i, i, true) from if_pos h0]
      exact if_pos he
    · rw [if_neg he]
      exact if_neg he
theorem find_eq (k : Nat) (hk : 10 ≤ k) (s : ByteArray) : vars_find.f k s = some (fndR (fndF s)) := by
  unfold vars_find.f
  rw [vars9_eq, Option.bind_some, vars9_len]
  exact find_go s 9 k 0 (Int.le_refl _) rfl (by omega)
theorem reffind_go (s : ByteArray) : ∀ (d k : Nat) (i : Int), 0 ≤ i → i + d = 9 → d < k → tinderref19_find.l0 k s i = some (fndG s d i)
  | 0, k, i, h0, h1, hk => by
    obtain ⟨k, rfl⟩ : ∃ m, k = m + 1 := ⟨k - 1, by omega⟩
    rw [tinderref19_find.l0, if_neg (by omega)]
    rfl
  | d + 1, k, i, h0, h1, hk => by
    obtain ⟨k, rfl⟩ : ∃ m, k = m + 1 := ⟨k - 1, by omega⟩
    have hw : wrap64 (i + 1) = i + 1 := by unfold wrap64; omega
    rw [tinderref19_find.l0, if_pos (by omega), variable_eq i ⟨h0, by omega⟩, Option.bind_some, hw, reffind_go s d k (i + 1) (by omega) (by omega) (by omega), fndG]
    by_cases he : (nmV i).toList = s.toList
    · rw [if_pos he, if_pos he]
    · rw [if_neg he, if_neg he]
theorem reffind_eq (k : Nat) (hk : 10 ≤ k) (s : ByteArray) : tinderref19_find.f k s = some (fndF s) := reffind_go s 9 k 0 (Int.le_refl _) rfl (by omega)
def defF (s : ByteArray) : ByteArray × Int := if 0 ≤ fndF s then (stV (fndF s), 0) else ((⟨#[]⟩ : ByteArray), 2)
theorem default_eq (k : Nat) (hk : 10 ≤ k) (s : ByteArray) : vars_Default.f k s = some (defF s) := by
  unfold vars_Default.f defF
  rw [find_eq k hk, Option.bind_some, fndR]
  by_cases h : 0 ≤ fndF s
  · rw [if_pos h, if_pos h]; rfl
  · rw [if_neg h, if_neg h]; rfl
theorem refdefault_eq (k : Nat) (hk : 10 ≤ k) (s : ByteArray) : tinderref19_Default.f k s = some (defF s) := by
  have hr := fndF_range s
  unfold tinderref19_Default.f defF
  rw [reffind_eq k hk, Option.bind_some]
  by_cases h : 0 ≤ fndF s
  · rw [if_pos h, if_neg (by omega), variable_eq _ ⟨h, hr.2⟩]; rfl
  · rw [if_neg h, if_pos (by omega)]
def okB (c : Int) : Bool := decide (32 ≤ c) && decide (c ≤ 126)
def trueL : List UInt8 := [116, 114, 117, 101]
def falseL : List UInt8 := [102, 97, 108, 115, 101]
def formV (kd : Int) (v : ByteArray) : ByteArray × Bool :=
  if kd = 0 then (v, decide (v.toList = trueL) || decide (v.toList = falseL))
  else if kd = 1 then (if (parF v 10).2 = 0 then (showB 10 (parF v 10).1, true) else ((⟨#[]⟩ : ByteArray), false))
  else if (bytesOf v).all okB = true then (v, decide (v.size ≤ 128)) else ((⟨#[]⟩ : ByteArray), false)
theorem par_range (s : ByteArray) (b : Int) (hb : 2 ≤ b ∧ b ≤ 36) (hs : s.size ≤ 9223372036854775806) : 0 ≤ (parF s b).1 ∧ (parF s b).1 < 4294967296 := by
  have hp : ∀ (l : List Int) (n : Int) (g : Bool), (g = false → 0 ≤ n ∧ n < 4294967296) → ∀ m, parL b l n g = some (m, false) → 0 ≤ m ∧ m < 4294967296 := by
    intro l
    induction l with
    | nil =>
      intro n g hg m hm
      simp only [parL_nil, Option.some.injEq, Prod.mk.injEq] at hm
      obtain ⟨rfl, rfl⟩ := hm
      exact hg rfl
    | cons c l ih =>
      intro n g hg m hm
      rw [parL_cons] at hm
      split at hm
      · split at hm
        · exact ih n true (fun h => by cases h) m hm
        · rename_i hgf
          have hn := hg (by simpa using hgf)
          have hv := val_range c b
          refine ih _ _ (fun h => ?_) m hm
          have h := of_decide_eq_false h
          have h2 : 0 ≤ n * b := Int.mul_nonneg hn.1 (by omega)
          omega
      · cases hm
  have hq : ∀ (neg : Bool) (l : List Int), 0 ≤ (resF neg (parL b l 0 false)).1 ∧ (resF neg (parL b l 0 false)).1 < 4294967296 := by
    intro neg l
    cases he : parL b l 0 false with
    | none => exact ⟨(by decide : (0 : Int) ≤ 0), (by decide : (0 : Int) < 4294967296)⟩
    | some y =>
      obtain ⟨m, g⟩ := y
      cases g with
      | true => exact ⟨(by decide : (0 : Int) ≤ 0), (by decide : (0 : Int) < 4294967296)⟩
      | false =>
        have := hp l 0 false (fun _ => ⟨by decide, by decide⟩) m he
        cases neg with
        | true => rw [resF_neg]; dsimp only; omega
        | false => rw [resF_pos]; exact this
  unfold parF
  rw [if_pos hb]
  split
  · split
    · exact ⟨by decide, by decide⟩
    · exact hq _ _
  · split
    · exact ⟨by decide, by decide⟩
    · exact hq _ _
theorem text_go (v : ByteArray) (hv : v.size ≤ 140737488351232) : ∀ (d k : Nat) (i : Int), 0 ≤ i → i + d = v.size → d < k → vars_variable_form.l0 k v v.size i = some (if ((bytesOf v).drop i.toNat).all okB = true then (v, decide (v.size ≤ 128)) else ((⟨#[]⟩ : ByteArray), false))
  | 0, k, i, h0, h1, hk => by
    obtain ⟨k, rfl⟩ : ∃ m, k = m + 1 := ⟨k - 1, by omega⟩
    rw [vars_variable_form.l0, if_neg (by omega), List.drop_eq_nil_of_le (by rw [bytesOf_length]; omega), List.all_nil, if_pos rfl]
    congr 2
    exact decide_eq_decide.2 (by omega)
  | d + 1, k, i, h0, h1, hk => by
    obtain ⟨k, rfl⟩ : ∃ m, k = m + 1 := ⟨k - 1, by omega⟩
    have hw : wrap64 (i + 1) = i + 1 := by unfold wrap64; omega
    rw [vars_variable_form.l0, if_pos (by omega), if_pos h0, if_pos (by omega), hw, text_go v hv d k (i + 1) (by omega) (by omega) (by omega), bytes_at v i h0 (by omega), List.all_cons, okB]
    by_cases h2 : bt v i < 32
    · rw [if_pos h2]; simp [show ¬ 32 ≤ bt v i by omega]
    · rw [if_neg h2]
      by_cases h3 : bt v i > 126
      · rw [if_pos h3]; simp [show ¬ bt v i ≤ 126 by omega]
      · rw [if_neg h3]; simp [show 32 ≤ bt v i by omega, show bt v i ≤ 126 by omega]
theorem form_var_eq (k : Nat) (nm st v : ByteArray) (kd : Int) (hv : v.size ≤ 140737488351232) (hk : v.size + 100 < k) : vars_variable_form.f k nm kd st v = some (formV kd v) := by
  unfold vars_variable_form.f formV
  by_cases h0 : kd = 0
  · rw [if_pos h0, if_pos h0, show ([116, 114, 117, 101] : List UInt8) = trueL from rfl, show ([102, 97, 108, 115, 101] : List UInt8) = falseL from rfl]
    by_cases h1 : v.toList = trueL
    · rw [if_pos h1]; simp [h1]
    · rw [if_neg h1, decide_eq_false h1, Bool.false_or]
      congr 2
      by_cases h2 : v.toList = falseL
      · rw [decide_eq_true h2]; exact beq_iff_eq.2 h2
      · rw [decide_eq_false h2]; exact beq_eq_false_iff_ne.2 h2
  · rw [if_neg h0, if_neg h0]
    by_cases h1 : kd = 1
    · rw [if_pos h1, if_pos h1, parse_eq k v 10 (by omega) (by omega), Option.bind_some]
      by_cases h2 : (parF v 10).2 = 0
      · have hr := par_range v 10 (by decide) (by omega)
        rw [if_pos h2, if_pos h2, digit_Show.f, if_pos hr, if_pos rfl]
        rfl
      · rw [if_neg h2, if_neg h2]
    · rw [if_neg h1, if_neg h1, text_go v hv v.size k 0 (Int.le_refl _) (by omega) (by omega)]
      rfl
def formF (s v : ByteArray) : ByteArray × Int := if 0 ≤ fndF s then (if (formV (kdV (fndF s)) v).2 = true then ((formV (kdV (fndF s)) v).1, 0) else ((⟨#[]⟩ : ByteArray), 27)) else ((⟨#[]⟩ : ByteArray), 2)
theorem form_eq (k : Nat) (s v : ByteArray) (hv : v.size ≤ 140737488351232) (hk : v.size + 100 < k) : vars_Form.f k s v = some (formF s v) := by
  unfold vars_Form.f formF
  rw [find_eq k (by omega), Option.bind_some, fndR]
  by_cases h : 0 ≤ fndF s
  · rw [if_pos h, if_pos h, if_pos rfl, form_var_eq k _ _ v _ hv hk, Option.bind_some]
    split <;> rfl
  · rw [if_neg h, if_neg h]; rfl
theorem reftext_go (v : ByteArray) (hv : v.size ≤ 140737488351232) : ∀ (d k : Nat) (i : Int), 0 ≤ i → i + d = v.size → d < k → tinderref19_Form.l0 k v i = some (if ((bytesOf v).drop i.toNat).all okB = true then (if v.size ≤ 128 then (v, 0) else ((⟨#[]⟩ : ByteArray), 27)) else ((⟨#[]⟩ : ByteArray), 27))
  | 0, k, i, h0, h1, hk => by
    obtain ⟨k, rfl⟩ : ∃ m, k = m + 1 := ⟨k - 1, by omega⟩
    rw [tinderref19_Form.l0, if_neg (by omega), List.drop_eq_nil_of_le (by rw [bytesOf_length]; omega), List.all_nil, if_pos rfl]
    by_cases h : v.size ≤ 128
    · rw [if_pos (by omega), if_pos h]
    · rw [if_neg (by omega), if_neg h]
  | d + 1, k, i, h0, h1, hk => by
    obtain ⟨k, rfl⟩ : ∃ m, k = m + 1 := ⟨k - 1, by omega⟩
    have hw : wrap64 (i + 1) = i + 1 := by unfold wrap64; omega
    rw [tinderref19_Form.l0, if_pos (by omega), if_pos h0, hw, reftext_go v hv d k (i + 1) (by omega) (by omega) (by omega), bytes_at v i h0 (by omega), List.all_cons, okB]
    by_cases h2 : bt v i < 32
    · rw [if_pos h2]; simp [show ¬ 32 ≤ bt v i by omega]
    · rw [if_neg h2]
      by_cases h3 : bt v i > 126
      · rw [if_pos h3]; simp [show ¬ bt v i ≤ 126 by omega]
      · rw [if_neg h3]; simp [show 32 ≤ bt v i by omega, show bt v i ≤ 126 by omega]
theorem refform_eq (k : Nat) (s v : ByteArray) (hv : v.size ≤ 140737488351232) (hk : v.size + 100 < k) : tinderref19_Form.f k s v = some (formF s v) := by
  have hr := fndF_range s
  unfold tinderref19_Form.f formF
  rw [reffind_eq k (by omega), Option.bind_some]
  by_cases h : 0 ≤ fndF s
  · rw [if_pos h, if_neg (by omega), variable_eq _ ⟨h, hr.2⟩, Option.bind_some, rkV, formV]
    rcases kd_range _ ⟨h, hr.2⟩ with e | e | e
    · rw [e]
      simp only [if_pos, if_true]
      rw [show ([116, 114, 117, 101] : List UInt8) = trueL from rfl, show ([102, 97, 108, 115, 101] : List UInt8) = falseL from rfl]
      by_cases h1 : v.toList = trueL
      · simp [h1]
      · by_cases h2 : v.toList = falseL
        · simp [h2]
        · simp [h1, h2]
    · rw [e]
      dsimp only
      rw [if_neg (show ¬ (if (1 : Int) = 0 then (98 : Int) else if (1 : Int) = 1 then 110 else 116) = 98 by decide), if_pos (show (if (1 : Int) = 0 then (98 : Int) else if (1 : Int) = 1 then 110 else 116) = 110 by decide), if_neg (show ¬ (1 : Int) = 0 by decide), if_pos rfl, refparse_eq k v 10 (by omega) (by omega), Option.bind_some]
      by_cases h2 : (parF v 10).2 = 0
      · have hp := par_range v 10 (by decide) (by omega)
        rw [if_pos h2, if_pos h2, tinderref02_Show.f, if_pos hp, if_pos (by decide), if_pos rfl]
        rfl
      · rw [if_neg h2, if_neg h2, if_neg (by decide)]
    · rw [e]
      dsimp only
      rw [if_neg (show ¬ (if (2 : Int) = 0 then (98 : Int) else if (2 : Int) = 1 then 110 else 116) = 98 by decide), if_neg (show ¬ (if (2 : Int) = 0 then (98 : Int) else if (2 : Int) = 1 then 110 else 116) = 110 by decide), if_neg (show ¬ (2 : Int) = 0 by decide), if_neg (show ¬ (2 : Int) = 1 by decide), reftext_go v hv v.size k 0 (Int.le_refl _) (by omega) (by omega)]
      rw [show ((0 : Int).toNat) = 0 from rfl, List.drop_zero]
      by_cases h2 : (bytesOf v).all okB = true
      · rw [if_pos h2, if_pos h2]
        by_cases h3 : v.size ≤ 128
        · simp [h3]
        · simp [h3]
      · rw [if_neg h2, if_neg h2, if_neg (by decide)]
  · rw [if_neg h, if_pos (by omega)]
/-- May a setting stand behind the variable of number 'last'? -/
def okV (last : Int) (x : S40) : Bool := decide (0 ≤ fndF x.f0) && (formV (kdV (fndF x.f0)) x.f1).2 && decide (last < fndF x.f0) && decide ((formV (kdV (fndF x.f0)) x.f1).1.toList = x.f1.toList) && !decide ((formV (kdV (fndF x.f0)) x.f1).1.toList = (stV (fndF x.f0)).toList)
def rightL : List S40 → Int → Bool
  | [], _ => true
  | x :: r, last => okV last x && rightL r (fndF x.f0)
def rightF (l : List S40) : Bool := rightL l (-1)
def Fits (l : List S40) : Prop := ∀ x ∈ l, x.f0.size ≤ 140737488351232 ∧ x.f1.size ≤ 140737488351232
theorem at_drop (l : List S40) (i : Int) (h0 : 0 ≤ i) (h1 : i < l.length) : l.drop i.toNat = rd_T40 l i :: l.drop (i + 1).toNat := by
  rw [List.drop_eq_getElem_cons (show i.toNat < l.length by omega), show (i + 1).toNat = i.toNat + 1 by omega]
  simp [rd_T40, List.getD_eq_getElem?_getD, List.getElem?_eq_getElem (show i.toNat < l.length by omega)]
theorem rd_mem (l : List S40) (i : Int) (h0 : 0 ≤ i) (h1 : i < l.length) : rd_T40 l i ∈ l := by
  have h := at_drop l i h0 h1
  exact List.mem_of_mem_drop (h ▸ List.mem_cons_self ..)
theorem right_go (l : List S40) (hf : Fits l) : ∀ (d k : Nat) (i last : Int), 0 ≤ i → i + d = l.length → l.length < 1125899906842624 → d + 140737488351400 < k → vars_Right.l0 k last l l.length i = some (rightL (l.drop i.toNat) last)
  | 0, k, i, last, h0, h1, hl, hk => by
    obtain ⟨k, rfl⟩ : ∃ m, k = m + 1 := ⟨k - 1, by omega⟩
    rw [vars_Right.l0, if_neg (by omega), List.drop_eq_nil_of_le (by omega)]
    rfl
  | d + 1, k, i, last, h0, h1, hl, hk => by
    obtain ⟨k, rfl⟩ : ∃ m, k = m + 1 := ⟨k - 1, by omega⟩
    have hw : wrap64 (i + 1) = i + 1 := by unfold wrap64; omega
    have hx := hf _ (rd_mem l i h0 (by omega))
    rw [vars_Right.l0, if_pos (by omega), if_pos h0, if_pos (by omega), find_eq k (by omega), Option.bind_some, hw, right_go l hf d k (i + 1) _ (by omega) (by omega) hl (by omega), at_drop l i h0 (by omega), rightL, okV, form_var_eq k _ _ _ _ hx.2 (by omega), Option.bind_some]
    generalize rd_T40 l i = x
    unfold fndR
    by_cases h : 0 ≤ fndF x.f0
    · rw [if_pos h, if_pos rfl, decide_eq_true h]
      by_cases h2 : (formV (kdV (fndF x.f0)) x.f1).2 = true
      · rw [if_pos h2, h2]
        by_cases h3 : fndF x.f0 ≤ last
        · rw [if_pos h3]; simp [show ¬ last < fndF x.f0 by omega]
        · rw [if_neg h3]
          by_cases h4 : (formV (kdV (fndF x.f0)) x.f1).1.toList = x.f1.toList
          · rw [if_pos h4]
            by_cases h5 : (formV (kdV (fndF x.f0)) x.f1).1.toList = (stV (fndF x.f0)).toList
            · rw [if_pos h5]; simp [h5]
            · rw [if_neg h5]; simp [h4, show last < fndF x.f0 by omega, h4 ▸ h5]
          · rw [if_neg h4]; simp [h4]
      · rw [if_neg h2]; simp [h2]
    · rw [if_neg h, if_neg (by decide)]; simp [h]
theorem right_eq (l : List S40) (hf : Fits l) (hl : l.length < 1125899906842624) (k : Nat) (hk : l.length + 140737488351400 < k) : vars_Right.f k l = some (rightF l) := right_go l hf l.length k 0 (-1) (Int.le_refl _) (by omega) hl hk
theorem refright_go (l : List S40) (hf : Fits l) : ∀ (d k : Nat) (i last : Int), 0 ≤ i → i + d = l.length → l.length < 1125899906842624 → d + 140737488351400 < k → -1 ≤ last → tinderref19_Right.l0 k l last i = some (rightL (l.drop i.toNat) last)
  | 0, k, i, last, h0, h1, hl, hk, hla => by
    obtain ⟨k, rfl⟩ : ∃ m, k = m + 1 := ⟨k - 1, by omega⟩
    rw [tinderref19_Right.l0, if_neg (by omega), List.drop_eq_nil_of_le (by omega)]
    rfl
  | d + 1, k, i, last, h0, h1, hl, hk, hla => by
    obtain ⟨k, rfl⟩ : ∃ m, k = m + 1 := ⟨k - 1, by omega⟩
    have hw : wrap64 (i + 1) = i + 1 := by unfold wrap64; omega
    have hx := hf _ (rd_mem l i h0 (by omega))
    have hr := fndF_range (rd_T40 l i).f0
    rw [tinderref19_Right.l0, if_pos (by omega), if_pos h0, reffind_eq k (by omega), Option.bind_some, hw, refright_go l hf d k (i + 1) _ (by omega) (by omega) hl (by omega) hr.1, at_drop l i h0 (by omega), rightL, okV, refform_eq k _ _ hx.2 (by omega), Option.bind_some, refdefault_eq k (by omega), Option.bind_some]
    generalize rd_T40 l i = x at *
    by_cases h3 : fndF x.f0 ≤ last
    · rw [if_pos h3]; simp [show ¬ last < fndF x.f0 by omega]
    · rw [if_neg h3]
      have h : 0 ≤ fndF x.f0 := by omega
      rw [formF, if_pos h, defF, if_pos h, decide_eq_true h]
      by_cases h2 : (formV (kdV (fndF x.f0)) x.f1).2 = true
      · rw [if_pos h2, h2, if_pos rfl]
        by_cases h4 : (formV (kdV (fndF x.f0)) x.f1).1.toList = x.f1.toList
        · rw [if_pos h4]
          by_cases h5 : (formV (kdV (fndF x.f0)) x.f1).1.toList = (stV (fndF x.f0)).toList
          · rw [if_pos h5]; simp [h5]
          · rw [if_neg h5]; simp [h4, show last < fndF x.f0 by omega, h4 ▸ h5]
        · rw [if_neg h4]; simp [h4]
      · rw [if_neg h2, if_neg (by decide)]; simp [h2]
theorem refright_eq (l : List S40) (hf : Fits l) (hl : l.length < 1125899906842624) (k : Nat) (hk : l.length + 140737488351400 < k) : tinderref19_Right.f k l = some (rightF l) := refright_go l hf l.length k 0 (-1) (Int.le_refl _) (by omega) hl hk (by decide)
end Go.Proofs.YtefhngadeimklaaDoor.Q
end
section
namespace Go.Proofs.YtefhngadeimklaaDoor.Q
open Go.RowKit Go.Proofs.YtefhngadeimklaaDoorW.PrintWords Go.Proofs.YtefhngadeimklaaDoorW.PrintLast Go.Proofs.YtefhngadeimklaaDoorW.PrintMore
set_option linter.unusedVariables false
set_option linter.unusedSimpArgs false

attribute [local go_sem] max2_int min2_int max_two min_two max_three min_three max_four min_four
/-! ### tinderref19_Names: function 22 -/
def tinderref19_Names.l0 : Nat → List ByteArray → Int → Option (List ByteArray)
  | 0, _, _ => none
  | k + 1, x1, x2 => if x2 < 9 then ((tinderref19_Variable.f x2).bind fun bt23001 => (if x1.length < 8796093022208 then (tinderref19_Names.l0 k (x1 ++ [bt23001.1]) (wrap64 (x2 + 1))) else (none))) else (some x1)
def tinderref19_Names.f (k : Nat)  : Option (List ByteArray) := tinderref19_Names.l0 k ([] : List ByteArray) 0
theorem tinderref19_Names.mono_l : ∀ k, (∀ y0 y1, LeO (tinderref19_Names.l0 k y0 y1) (tinderref19_Names.l0 (k + 1) y0 y1))
  | 0 => fun _ _ r h => by simp [tinderref19_Names.l0] at h
  | k + 1 => by
    have ih0 := tinderref19_Names.mono_l k
    · intro y0 y1
      unfold tinderref19_Names.l0
      repeat' first
      | (with_reducible exact ih0 _ _)
      | (with_reducible exact LeO.refl _)
      | (with_reducible exact LeO.none _)
      | (with_reducible refine LeO.ite ?_ ?_)
      | (with_reducible refine LeO.bind ?_ (fun _ => ?_))
      | exact ih0 _ _
      | exact LeO.none _
      | refine LeO.ite ?_ ?_
      | refine LeO.bind ?_ (fun _ => ?_)
theorem tinderref19_Names.mono : ∀ k, LeO (tinderref19_Names.f k ) (tinderref19_Names.f (k + 1) ) := by
  intro  k
  have ih0 := tinderref19_Names.mono_l k
  unfold tinderref19_Names.f
  repeat' first
      | (with_reducible exact ih0 _ _)
      | (with_reducible exact LeO.refl _)
      | (with_reducible exact LeO.none _)
      | (with_reducible refine LeO.ite ?_ ?_)
      | (with_reducible refine LeO.bind ?_ (fun _ => ?_))
      | exact ih0 _ _
      | exact LeO.none _
      | refine LeO.ite ?_ ?_
      | refine LeO.bind ?_ (fun _ => ?_)
set_option maxHeartbeats 8000000 in
set_option maxRecDepth 100000 in
theorem tinderref19_Names.calls (k : Nat)  (r : List ByteArray) (w : World) (h : tinderref19_Names.f k  = some r) :
    Calls Tryd.prog 22 #[] w fun e w' => ∃ v0_ : Value, e = .returned (v0_) ∧ Kd.R Kd.string 9 w' w.heap.size (fun _ => True) v0_ r ∧ Below w.heap.size w w' := by
  have HB := Aside0.mk (Below.refl w.heap.size w)
  have H : (tinderref19_Names.l0 k ([] : List ByteArray) 0) = some r := h
  clear h
  have H' := Aside0.mk H
  clear H
  go_enter Tryd.func22, Tryd.ntmps22
  go_wp2
  go_loopg [1, 2] k (fun kq v1 v2 w' => ∃ (x1_1 : List ByteArray) (x2_1 : Int), v2 = .int .i64 x2_1 ∧ Aside0 (tinderref19_Names.l0 kq x1_1 x2_1 = some r) ∧ Aside0 (kq ≤ k) ∧ Aside0 (Kd.R Kd.string 9 w' w.heap.size (fun _ => True) v1 x1_1) ∧ Aside0 (Below w.heap.size w w'))
  case atStart => exact ⟨(([] : List ByteArray)), (0), (by first | rfl | (simp; done) | (simp [*]; done)), H', ⟨Nat.le_refl _⟩, ⟨by first | exact Kd.R_nil _ _ _ _ _ | exact Kd.N_nil _ _ _ _ _ | exact Kd.V_nil _ _ _ _ _ | exact Kd.Q_nil _ _ _ _ _ | exact Kd.S_nil _ _ _ _ _⟩, ⟨by repeat (first | (with_reducible first | exact HB.out | apply below_alloc | apply pw_below_drewN | apply below_drew1) | exact HB.out)⟩⟩
  case round =>
    clear H'
    obtain ⟨x1_1, x2_1, rfl, HA, HK1, HO_1, HB⟩ := hrel
    cases gk with
    | zero => exact absurd HA.out (by simp [tinderref19_Names.l0])
    | succ k1 =>
      have H := HA.out
      clear HA
      simp only [tinderref19_Names.l0] at H
      by_cases c1 : x2_1 < 9
      · rw [if_pos c1] at H
        have c1b0 : decide (x2_1 < 9) = true := decide_eq_true c1
        clear c1
        replace H := Option.bind_eq_some_iff.mp H
        obtain ⟨⟨t23001, t23002, t23003⟩, A20, H⟩ := H
        replace H : (if x1_1.length < 8796093022208 then (tinderref19_Names.l0 k1 (x1_1 ++ [t23001]) (wrap64 (x2_1 + 1))) else (none)) = some r := H
        have A2 := Aside0.mk A20
        clear A20
        by_cases c3 : x1_1.length < 8796093022208
        · rw [if_pos c3] at H
          have LMc3 := Aside0.mk c3
          clear c3
          obtain ⟨y23004, hy23004⟩ : ∃ y_ : List ByteArray, y_ = (x1_1 ++ [t23001]) := ⟨_, rfl⟩
          replace H : (tinderref19_Names.l0 k1 y23004 (wrap64 (x2_1 + 1))) = some r := by first | (rw [hy23004]; with_reducible exact H) | (have H2_ := (Option.bind_some _ _).symm.trans H; rw [hy23004]; with_reducible exact H2_) | (have H2_ := (Option.bind_some _ _).symm.trans H; with_reducible exact H2_) | with_reducible exact H | (rw [hy23004]; exact H) | exact H
          have Ny23004 := Aside0.mk hy23004
          clear hy23004
          have H' := Aside0.mk H
          clear H
          go_wp2_with (first | ((with_reducible refine gate_callee (f := 47) rfl ?_); refine goesL_ (some 12) rfl rfl Tryd.func47 (by kernel_rfl) rfl #[.int .i64 x2_1] rfl (by (try simp only [List.map_toArray, List.map_cons, List.map_nil]); first | done | rfl | (simp only [List.length_drop, List.length_take]; rfl)) ?_; (with_reducible refine (tinderref19_Variable.calls x2_1 t23001 t23002 t23003 _ A2.out).mono ?_); rintro e w' ⟨rfl, ⟨nd, rfl⟩⟩; refine ⟨_, rfl, ?_⟩) | ((with_reducible refine gate_builtin (b := .append) (xs := #[.tmp 16, .tmp 18]) rfl ?_); at_builtin; refine Kd.R_append Kd.string (w0 := w) w.heap.size rfl (.tmp 16) (.tmp 18) 34 9 (.string ⟨#[]⟩) 16 rfl Tryd.underlying34 info9 rfl (by decide) (by omega) u1 x1_1 t23001 [.string t23001] (fun _ => True) (fun _ => False) rfl rfl ?aP (fun _ hk => hk.elim) ?aF ?aO ?aB ?aS ?aL ?_; (case aP => exact rfl); (case aB => exact (by repeat (first | (with_reducible first | exact HB.out | apply below_alloc | apply pw_below_drewN | apply below_drew1) | exact HB.out))); (case aF => exact (fun _ _ => trivial)); (case aO => exact (by (with_reducible repeat (first | apply Kd.R_alloc | apply Kd.R_drewN | apply Kd.R_drew)); exact HO_1.out)); (case aS => exact (below_size (by repeat (first | (with_reducible first | exact HB.out | apply below_alloc | apply pw_below_drewN | apply below_drew1) | exact HB.out)))); (case aL => have := LMc3.out; omega); intro v23005 w4 ho hb hg hat; rw [← Ny23004.out] at ho; have n0_ := Aside0.mk (hb); have n1_ := Aside0.mk (ho); clear HB; clear HO_1; have HB := n0_; have HO23006 := n1_; clear n0_ n1_; clear ho hb hg hat))
          go_roundg k1
          case measure => have := HK1.out; omega
          case rel => exact ⟨(y23004), (wrap64 (x2_1 + 1)), (by first | rfl | (simp; done) | (simp [*]; done)), H', ⟨by have := HK1.out; omega⟩, ⟨by (with_reducible repeat (first | apply Kd.R_alloc | apply Kd.R_drewN | apply Kd.R_drew)); exact HO23006.out⟩, ⟨by repeat (first | (with_reducible first | exact HB.out | apply below_alloc | apply pw_below_drewN | apply below_drew1) | exact HB.out)⟩⟩
        · rw [if_neg c3] at H
          exact absurd H (by simp)
      · rw [if_neg c1] at H
        have c1b0 : decide (x2_1 < 9) = false := decide_eq_false c1
        clear c1
        obtain rfl := Option.some.inj H
        go_wp2
        go_ret
        exact ⟨_, by first | rfl | (simp [errW_none, errW_some] <;> rfl) | (simp [*, errW_none, errW_some] <;> rfl), by (with_reducible repeat (first | apply Kd.R_alloc | apply Kd.R_drewN | apply Kd.R_drew)); exact HO_1.out, by repeat (first | (with_reducible first | exact HB.out | apply below_alloc | apply pw_below_drewN | apply below_drew1) | exact HB.out)⟩

end Go.Proofs.YtefhngadeimklaaDoor.Q
end
section
namespace Go.Proofs.YtefhngadeimklaaDoor.Q
open Go.RowKit Go.Proofs.YtefhngadeimklaaDoorW.PrintWords Go.Proofs.YtefhngadeimklaaDoorW.PrintLast Go.Proofs.YtefhngadeimklaaDoorW.PrintMore
set_option linter.unusedVariables false
set_option linter.unusedSimpArgs false

attribute [local go_sem] max2_int min2_int max_two min_two max_three min_three max_four min_four
/-! ### vars_Names: function 21 -/
def vars_Names.l0 : Nat → List ByteArray → List (S57) → Int → Int → Option (List ByteArray)
  | 0, _, _, _, _ => none
  | k + 1, x1, x4, x5, x6 => if x6 < x5 then (if 0 ≤ x6 then (if x6 < (x4.length : Int) then (if x1.length < 8796093022208 then (vars_Names.l0 k (x1 ++ [(rd_T57 x4 x6).f0]) x4 x5 (wrap64 (x6 + 1))) else (none)) else (none)) else (none)) else (some x1)
def vars_Names.f (k : Nat)  : Option (List ByteArray) := (vars_all.f).bind fun t22001 => (vars_Names.l0 k ([] : List ByteArray) t22001 (t22001.length : Int) 0)
theorem vars_Names.mono_l : ∀ k, (∀ y0 y1 y2 y3, LeO (vars_Names.l0 k y0 y1 y2 y3) (vars_Names.l0 (k + 1) y0 y1 y2 y3))
  | 0 => fun _ _ _ _ r h => by simp [vars_Names.l0] at h
  | k + 1 => by
    have ih0 := vars_Names.mono_l k
    · intro y0 y1 y2 y3
      unfold vars_Names.l0
      repeat' first
      | (with_reducible exact ih0 _ _ _ _)
      | (with_reducible exact LeO.refl _)
      | (with_reducible exact LeO.none _)
      | (with_reducible refine LeO.ite ?_ ?_)
      | (with_reducible refine LeO.bind ?_ (fun _ => ?_))
      | exact ih0 _ _ _ _
      | exact LeO.none _
      | refine LeO.ite ?_ ?_
      | refine LeO.bind ?_ (fun _ => ?_)
theorem vars_Names.mono : ∀ k, LeO (vars_Names.f k ) (vars_Names.f (k + 1) ) := by
  intro  k
  have ih0 := vars_Names.mono_l k
  unfold vars_Names.f
  repeat' first
      | (with_reducible exact ih0 _ _ _ _)
      | (with_reducible exact LeO.refl _)
      | (with_reducible exact LeO.none _)
      | (with_reducible refine LeO.ite ?_ ?_)
      | (with_reducible refine LeO.bind ?_ (fun _ => ?_))
      | exact ih0 _ _ _ _
      | exact LeO.none _
      | refine LeO.ite ?_ ?_
      | refine LeO.bind ?_ (fun _ => ?_)
set_option maxHeartbeats 8000000 in
set_option maxRecDepth 100000 in
theorem vars_Names.calls (k : Nat)  (r : List ByteArray) (w : World) (h : vars_Names.f k  = some r) :
    Calls Tryd.prog 21 #[] w fun e w' => ∃ v0_ : Value, e = .returned (v0_) ∧ Kd.R Kd.string 9 w' w.heap.size (fun _ => True) v0_ r ∧ Below w.heap.size w w' := by
  have hu57 := Tryd.underlying57
  have HB := Aside0.mk (Below.refl w.heap.size w)
  have H : ((vars_all.f).bind fun t22001 => (vars_Names.l0 k ([] : List ByteArray) t22001 (t22001.length : Int) 0)) = some r := h
  clear h
  replace H := Option.bind_eq_some_iff.mp H
  obtain ⟨t22001, A10, H⟩ := H
  replace H : (vars_Names.l0 k ([] : List ByteArray) t22001 (t22001.length : Int) 0) = some r := H
  have A1 := Aside0.mk A10
  clear A10
  have H' := Aside0.mk H
  clear H
  go_enter Tryd.func21, Tryd.ntmps21
  go_wp2_with (first | ((with_reducible refine gate_callee (f := 50) rfl ?_); refine goesL_ (some 4) rfl rfl Tryd.func50 (by kernel_rfl) rfl #[] rfl (by (try simp only [List.map_toArray, List.map_cons, List.map_nil]); first | done | rfl | (simp only [List.length_drop, List.length_take]; rfl)) ?_; (with_reducible refine (vars_all.calls  t22001 _ A1.out).mono ?_); rintro e w2 ⟨v22002, rfl, ho0, hb⟩; refine ⟨_, rfl, ?_⟩; have n0_ := Aside0.mk (Kd.R_lower ho0 (below_size (by repeat (first | (with_reducible first | exact HB.out | apply below_alloc | apply pw_below_drewN | apply below_drew1) | exact HB.out)))); have n1_ := Aside0.mk (below_step (by repeat (first | (with_reducible first | exact HB.out | apply below_alloc | apply pw_below_drewN | apply below_drew1) | exact HB.out)) hb); clear HB; have HO22003 := n0_; have HB := n1_; clear n0_ n1_; (try clear hb); (try clear hb2); (try clear hk); (try clear hi); (try clear ho0); obtain ⟨Ao3, co3, eo3⟩ := Kd.R_slice HO22003.out; subst eo3))
  go_loopg [1, 6] k (fun kq v1 v6 w' => ∃ (x1_1 : List ByteArray) (x6_1 : Int), v6 = .int .i64 x6_1 ∧ Aside0 (vars_Names.l0 kq x1_1 t22001 (t22001.length : Int) x6_1 = some r) ∧ Aside0 (kq ≤ k) ∧ Aside0 (Kd.R Kd.string 9 w' w.heap.size (fun _ => True) v1 x1_1) ∧ Aside0 (Kd.R k57 57 w' w.heap.size (fun _ => True) (.slice Ao3 t22001.length co3) t22001) ∧ Aside0 (Below w.heap.size w w'))
  case atStart => exact ⟨(([] : List ByteArray)), (0), (by first | rfl | (simp; done) | (simp [*]; done)), H', ⟨Nat.le_refl _⟩, ⟨by first | exact Kd.R_nil _ _ _ _ _ | exact Kd.N_nil _ _ _ _ _ | exact Kd.V_nil _ _ _ _ _ | exact Kd.Q_nil _ _ _ _ _ | exact Kd.S_nil _ _ _ _ _⟩, ⟨by (with_reducible repeat (first | apply Kd.R_alloc | apply Kd.R_drewN | apply Kd.R_drew)); exact HO22003.out⟩, ⟨by repeat (first | (with_reducible first | exact HB.out | apply below_alloc | apply pw_below_drewN | apply below_drew1) | exact HB.out)⟩⟩
  case round =>
    clear H'
    try clear c2
    try clear p2
    obtain ⟨x1_1, x6_1, rfl, HA, HK1, HO_1, HO_4, HB⟩ := hrel
    cases gk with
    | zero => exact absurd HA.out (by simp [vars_Names.l0])
    | succ k1 =>
      have H := HA.out
      clear HA
      simp only [vars_Names.l0] at H
      by_cases c4 : x6_1 < (t22001.length : Int)
      · rw [if_pos c4] at H
        have c4b0 : decide (x6_1 < (t22001.length : Int)) = true := decide_eq_true c4
        clear c4
        by_cases c5 : 0 ≤ x6_1
        · rw [if_pos c5] at H
          have c5b0 : decide (0 ≤ x6_1) = true := decide_eq_true c5
          clear c5
          by_cases c6 : x6_1 < (t22001.length : Int)
          · rw [if_pos c6] at H
            have c6b0 : decide (x6_1 < (t22001.length : Int)) = true := decide_eq_true c6
            clear c6
            by_cases c7 : x1_1.length < 8796093022208
            · rw [if_pos c7] at H
              have LMc7 := Aside0.mk c7
              clear c7
              obtain ⟨y22006, hy22006⟩ : ∃ y_ : List ByteArray, y_ = (x1_1 ++ [(rd_T57 t22001 x6_1).f0]) := ⟨_, rfl⟩
              replace H : (vars_Names.l0 k1 y22006 t22001 (t22001.length : Int) (wrap64 (x6_1 + 1))) = some r := by first | (rw [hy22006]; with_reducible exact H) | (have H2_ := (Option.bind_some _ _).symm.trans H; rw [hy22006]; with_reducible exact H2_) | (have H2_ := (Option.bind_some _ _).symm.trans H; with_reducible exact H2_) | with_reducible exact H | (rw [hy22006]; exact H) | exact H
              have Ny22006 := Aside0.mk hy22006
              clear hy22006
              have H' := Aside0.mk H
              clear H
              have p22004 : 0 ≤ (x6_1 : Int) := of_decide_eq_true (by first | (with_reducible assumption) | assumption)
              have q22004 : x6_1 < (t22001.length : Int) := of_decide_eq_true (by first | (with_reducible assumption) | assumption)
              obtain ⟨ad22004, e22004, hx22004_0, hx22004_1, hx22004_2⟩ := at_T57 (Kd.R_reads' HO_4.out).2.2 x6_1 p22004 q22004
              cases e22004
              replace p22004 := eq_true p22004
              replace q22004 := eq_true q22004
              go_wp2_with (first | ((with_reducible refine gate_dst (N := 3) rfl ?_); refine box_event ?hg (N := 3) ?hd (cs := #[.string (⟨#[]⟩ : ByteArray), .int .i64 0, .string (⟨#[]⟩ : ByteArray)]) (t := 57) ?hr ?_; (case hd => rfl); (case hg => rfl); (case hr => first | (go_simp; done) | (go_simp; rfl)); intro gb22005 hg w8 hbox hb; have n0_ := Aside0.mk (Kd.R_below (by (with_reducible repeat (first | apply Kd.R_alloc | apply Kd.R_drewN | apply Kd.R_drew)); exact HO_1.out) hb); have n1_ := Aside0.mk (Kd.R_below (Kd.R_elderB (by (with_reducible repeat (first | apply Kd.R_alloc | apply Kd.R_drewN | apply Kd.R_drew)); exact HO_4.out) gb22005 (Nat.le_of_eq hg.symm)) hb); have n2_ := Aside0.mk (below_step (by repeat (first | (with_reducible first | exact HB.out | apply below_alloc | apply pw_below_drewN | apply below_drew1) | exact HB.out)) hb); have n3_ := Aside0.mk (hbox); have n4_ := Aside0.mk ((by rw [hg]; exact (below_size (by repeat (first | (with_reducible first | exact HB.out | apply below_alloc | apply pw_below_drewN | apply below_drew1) | exact HB.out))) : w.heap.size ≤ gb22005)); have n5_ := Aside0.mk ((by rw [hg]; exact (below_size (by repeat (first | (with_reducible first | exact HB.out | apply below_alloc | apply pw_below_drewN | apply below_drew1) | exact HB.out))) : w.heap.size ≤ gb22005)); clear HO_1; clear HO_4; clear HB; have HO_1 := n0_; have HO_4 := n1_; have HB := n2_; have BK22005 := n3_; have GW22005 := n4_; have GE22005 := n5_; clear n0_ n1_ n2_ n3_ n4_ n5_; clear hb hbox hg; have hcz9_0 : w8.cell? ⟨gb22005, 0, none⟩ = some (.string (⟨#[]⟩ : ByteArray)) := (blk_cell BK22005.out 0).trans rfl; have hcz9_1 : w8.cell? ⟨gb22005, 1, none⟩ = some (.int .i64 0) := (blk_cell BK22005.out 1).trans rfl; have hcz9_2 : w8.cell? ⟨gb22005, 2, none⟩ = some (.string (⟨#[]⟩ : ByteArray)) := (blk_cell BK22005.out 2).trans rfl; have hfz9_0 := blk_frozen BK22005.out 0; have hfz9_1 := blk_frozen BK22005.out 1; have hfz9_2 := blk_frozen BK22005.out 2) | ((with_reducible refine gate_builtin (b := .append) (xs := #[.tmp 10, .tmp 13]) rfl ?_); at_builtin; refine Kd.R_append Kd.string (w0 := w) w.heap.size rfl (.tmp 10) (.tmp 13) 34 9 (.string ⟨#[]⟩) 16 rfl Tryd.underlying34 info9 rfl (by decide) (by omega) u1 x1_1 ((rd_T57 t22001 x6_1).f0) [.string ((rd_T57 t22001 x6_1).f0)] (fun _ => True) (fun _ => False) rfl (by first | (go_simp; done) | (go_simp; rfl)) ?aP (fun _ hk => hk.elim) ?aF ?aO ?aB ?aS ?aL ?_; (case aP => exact rfl); (case aB => exact (by repeat (first | (with_reducible first | exact HB.out | apply below_alloc | apply pw_below_drewN | apply below_drew1 | refine below_set ?_ GE22005.out) | exact HB.out))); (case aF => exact (fun _ _ => trivial)); (case aO => exact (by (with_reducible repeat (first | apply Kd.R_alloc | apply Kd.R_drewN | apply Kd.R_drew)); exact Kd.R_mono (Kd.R_far (p := ⟨gb22005, 2, none⟩) (Kd.R_far (p := ⟨gb22005, 1, none⟩) (Kd.R_far (p := ⟨gb22005, 0, none⟩) (Kd.R_types HO_1.out BK22005.out (by decide)) (fun _ hk => hk.2) (.string ((rd_T57 t22001 x6_1).f0))) (fun _ hk => hk.2) (.int .i64 ((rd_T57 t22001 x6_1).f1))) (fun _ hk => hk.2) (.string ((rd_T57 t22001 x6_1).f2))) (fun _ hk => trivial))); (case aS => exact (below_size (by repeat (first | (with_reducible first | exact HB.out | apply below_alloc | apply pw_below_drewN | apply below_drew1 | refine below_set ?_ GE22005.out) | exact HB.out)))); (case aL => have := LMc7.out; omega); intro v22007 w10 ho hb hg hat; rw [← Ny22006.out] at ho; have n0_ := Aside0.mk (Kd.R_over' (by (with_reducible repeat (first | apply Kd.R_alloc | apply Kd.R_drewN | apply Kd.R_drew)); exact (Kd.R_mono (Kd.R_far (p := ⟨gb22005, 2, none⟩) (Kd.R_far (p := ⟨gb22005, 1, none⟩) (Kd.R_far (p := ⟨gb22005, 0, none⟩) (Kd.R_mono HO_4.out (fun k_ hk => (⟨hk, hk.2⟩ : _ ∧ k_ ≠ gb22005))) (fun _ hk => hk.2) (.string ((rd_T57 t22001 x6_1).f0))) (fun _ hk => hk.2) (.int .i64 ((rd_T57 t22001 x6_1).f1))) (fun _ hk => hk.2) (.string ((rd_T57 t22001 x6_1).f2))) (fun _ h_ => h_.1))) (Kd.R_typed (by (with_reducible repeat (first | apply Kd.R_alloc | apply Kd.R_drewN | apply Kd.R_drew)); exact (Kd.R_mono (Kd.R_far (p := ⟨gb22005, 2, none⟩) (Kd.R_far (p := ⟨gb22005, 1, none⟩) (Kd.R_far (p := ⟨gb22005, 0, none⟩) (Kd.R_types HO_1.out BK22005.out (by decide)) (fun _ hk => hk.2) (.string ((rd_T57 t22001 x6_1).f0))) (fun _ hk => hk.2) (.int .i64 ((rd_T57 t22001 x6_1).f1))) (fun _ hk => hk.2) (.string ((rd_T57 t22001 x6_1).f2))) (fun _ h_ => h_.1)))) (by decide) hg); have n1_ := Aside0.mk (blk_grown (g := gb22005) (o := .cells #[.string ((rd_T57 t22001 x6_1).f0), .int .i64 ((rd_T57 t22001 x6_1).f1), .string ((rd_T57 t22001 x6_1).f2)] 57 (0, 0)) (by (with_reducible repeat (first | refine blk_drewN ?_ _ | refine blk_drew ?_ | refine blk_alloc ?_ _)); refine blk_put (cs := #[.string ((rd_T57 t22001 x6_1).f0), .int .i64 ((rd_T57 t22001 x6_1).f1), .string (⟨#[]⟩ : ByteArray)]) ?_ 2 _ rfl; (with_reducible repeat (first | refine blk_drewN ?_ _ | refine blk_drew ?_ | refine blk_alloc ?_ _)); refine blk_put (cs := #[.string ((rd_T57 t22001 x6_1).f0), .int .i64 0, .string (⟨#[]⟩ : ByteArray)]) ?_ 1 _ rfl; (with_reducible repeat (first | refine blk_drewN ?_ _ | refine blk_drew ?_ | refine blk_alloc ?_ _)); refine blk_put (cs := #[.string (⟨#[]⟩ : ByteArray), .int .i64 0, .string (⟨#[]⟩ : ByteArray)]) ?_ 0 _ rfl; (with_reducible repeat (first | refine blk_drewN ?_ _ | refine blk_drew ?_ | refine blk_alloc ?_ _)); exact BK22005.out) hg (Kd.R_ne HO_1.out BK22005.out (by decide))); have n2_ := Aside0.mk (hb); have n3_ := Aside0.mk (ho); clear HO_4; clear BK22005; clear HB; clear HO_1; have HO_4 := n0_; have BK22005 := n1_; have HB := n2_; have HO22008 := n3_; clear n0_ n1_ n2_ n3_; clear ho hb hg hat))
              go_roundg k1
              case measure => have := HK1.out; omega
              case rel => exact ⟨(y22006), (wrap64 (x6_1 + 1)), (by first | rfl | (simp; done) | (simp [*]; done)), H', ⟨by have := HK1.out; omega⟩, ⟨by (with_reducible repeat (first | apply Kd.R_alloc | apply Kd.R_drewN | apply Kd.R_drew)); exact HO22008.out⟩, ⟨by (with_reducible repeat (first | apply Kd.R_alloc | apply Kd.R_drewN | apply Kd.R_drew)); exact Kd.R_mono HO_4.out (fun _ hk => trivial)⟩, ⟨by repeat (first | (with_reducible first | exact HB.out | apply below_alloc | apply pw_below_drewN | apply below_drew1 | refine below_set ?_ GE22005.out) | exact HB.out)⟩⟩
            · rw [if_neg c7] at H
              exact absurd H (by simp)
          · rw [if_neg c6] at H
            exact absurd H (by simp)
        · rw [if_neg c5] at H
          exact absurd H (by simp)
      · rw [if_neg c4] at H
        have c4b0 : decide (x6_1 < (t22001.length : Int)) = false := decide_eq_false c4
        clear c4
        obtain rfl := Option.some.inj H
        go_wp2
        go_ret
        exact ⟨_, by first | rfl | (simp [errW_none, errW_some] <;> rfl) | (simp [*, errW_none, errW_some] <;> rfl), by (with_reducible repeat (first | apply Kd.R_alloc | apply Kd.R_drewN | apply Kd.R_drew)); exact HO_1.out, by repeat (first | (with_reducible first | exact HB.out | apply below_alloc | apply pw_below_drewN | apply below_drew1) | exact HB.out)⟩

end Go.Proofs.YtefhngadeimklaaDoor.Q
end
section
namespace Go.Proofs.YtefhngadeimklaaDoor.Q
open Go.RowKit Go.Proofs.YtefhngadeimklaaDoorW.PrintWords Go.Proofs.YtefhngadeimklaaDoorW.PrintLast Go.Proofs.YtefhngadeimklaaDoorW.PrintMore
set_option linter.unusedVariables false
attribute [local go_sem] max2_int min2_int max_two min_two max_three min_three max_four min_four
set_option maxHeartbeats 1000000 in
theorem named_calls (s : ByteArray) (w : World) :
    Calls Tryd.prog 40 #[.string s] w fun e w' => ∃ gb, e = .returned (.func (.func 58) #[] #[.pointer (some ⟨gb, 0, none⟩)]) ∧ w.heap.size ≤ gb ∧ w'.heap[gb]? = some (.cells #[.string s] 9 (0, 0)) ∧ Below w.heap.size w w' := by
  have HB := Aside0.mk (Below.refl w.heap.size w)
  go_enter Tryd.func40, Tryd.ntmps40
  go_wp2_with (first
    | ((with_reducible refine gate_dst (N := 1) rfl ?_); refine box_event ?hg (N := 1) ?hd (cs := #[.string s]) (t := 9) ?hr ?_; (case hd => rfl); (case hg => rfl); (case hr => first | (go_simp; done) | (go_simp; rfl)); intro gb hg w1 hbox hb; have BK := Aside0.mk hbox; have HB := Aside0.mk hb; have GB := Aside0.mk (show w.heap.size ≤ gb from hg ▸ Nat.le_refl _); clear hbox hb hg))
  go_ret
  exact ⟨gb, rfl, GB.out, BK.out, HB.out⟩
set_option maxHeartbeats 1000000 in
theorem namedC_calls (x : S40) (s : ByteArray) (gb : Nat) (w : World) (hh : w.heap[gb]? = some (.cells #[.string s] 9 (0, 0))) :
    Calls Tryd.prog 58 #[.agg #[.string x.f0, .string x.f1], .pointer (some ⟨gb, 0, none⟩)] w fun e w' => e = .returned (.bool (x.f0.toList == s.toList)) ∧ Below w.heap.size w w' := by
  have hu40 := Tryd.underlying40
  have hlt : gb < w.heap.size := by
    rw [Array.getElem?_eq_some_iff] at hh
    exact hh.1
  have HB := Aside0.mk (Below.refl w.heap.size w)
  have HH := Aside0.mk hh
  have HLT := Aside0.mk hlt
  clear hh hlt
  go_enter Tryd.func58, Tryd.ntmps58
  go_wp2_with (first
    | ((with_reducible refine gate_dst (N := 2) rfl ?_); refine box_event ?hg (N := 2) ?hd (cs := #[.string x.f0, .string x.f1]) (t := 40) ?hr ?_; (case hd => rfl); (case hg => rfl); (case hr => first | (go_simp; done) | (go_simp; rfl)); intro ga hg w1 hbox hb; have BK := Aside0.mk hbox; have hz0 := (blk_cell BK.out 0).trans rfl; have hz1 := (blk_cell BK.out 1).trans rfl; have hf0 := blk_frozen BK.out 0; have hf1 := blk_frozen BK.out 1; have hz2 : w1.cell? ⟨gb, 0, none⟩ = some (.string s) := (hb.cell (p := ⟨gb, 0, none⟩) HLT.out).trans ((blk_cell HH.out 0).trans rfl); have HB := Aside0.mk hb; clear hbox hb hg))
  go_ret
  exact ⟨rfl, HB.out⟩
/-- The first place of a name; -1: none. -/
def idxN (s : ByteArray) : List S40 → Int
  | [] => -1
  | x :: r => if x.f0.toList = s.toList then 0 else if idxN s r < 0 then -1 else idxN s r + 1
theorem idxN_range (s : ByteArray) : ∀ l : List S40, -1 ≤ idxN s l ∧ idxN s l < l.length
  | [] => ⟨Int.le_refl _, by simp [idxN]⟩
  | x :: r => by
    have ih := idxN_range s r
    unfold idxN
    rw [List.length_cons]
    split
    · omega
    · split <;> omega
theorem idxN_drop (s : ByteArray) : ∀ (l : List S40) (i : Nat), (∀ j, j < i → (rd_T40 l j).f0.toList ≠ s.toList) → idxN s l = if idxN s (l.drop i) < 0 then -1 else idxN s (l.drop i) + i
  | l, 0, _ => by
    have := idxN_range s l
    rw [List.drop_zero]
    split <;> omega
  | [], i + 1, _ => by simp [idxN]
  | x :: r, i + 1, h => by
    have ih := idxN_drop s r i (fun j hj => by
      have := h (j + 1) (by omega)
      rw [show ((j + 1 : Nat) : Int) = ((j + 1 : Nat) : Int) from rfl] at this
      simpa [rd_T40] using this)
    have h0 : x.f0.toList ≠ s.toList := by simpa [rd_T40] using h 0 (by omega)
    have hr := idxN_range s (r.drop i)
    rw [List.drop_succ_cons, idxN, if_neg h0, ih]
    by_cases hq : idxN s (List.drop i r) < 0
    · simp [hq]
    · simp only [hq, if_false]
      rw [if_neg (by omega)]
      omega
set_option maxHeartbeats 2000000 in
set_option maxRecDepth 100000 in
theorem indexNamed_calls (s : ByteArray) (gb : Nat) (A : Option Addr) (c : Nat) (l : List S40) (w : World) (hC : Kd.C k40 w A l.length l) (hh : w.heap[gb]? = some (.cells #[.string s] 9 (0, 0))) :
    Calls Tryd.prog 41 #[.slice A l.length c, .func (.func 58) #[] #[.pointer (some ⟨gb, 0, none⟩)]] w fun e w' => e = .returned (.int .i64 (idxN s l)) ∧ Below w.heap.size w w' := by
  have hu40 := Tryd.underlying40
  have hlt : gb < w.heap.size := by
    rw [Array.getElem?_eq_some_iff] at hh
    exact hh.1
  have HC := Aside0.mk hC
  have HH := Aside0.mk hh
  have HLT := Aside0.mk hlt
  have HF := Aside0.mk (fun (x : S40) (W : World) (hb : Below w.heap.size w W) => namedC_calls x s gb W (by rw [hb.block gb hlt]; exact hh))
  clear hC hh hlt
  go_enter Tryd.func41, Tryd.ntmps41
  go_wp2
  go_loopg [8] l.length (fun kq v8 w' => ∃ i : Int, v8 = .int .i64 i ∧ Aside0 (0 ≤ i ∧ i + kq = l.length) ∧ Aside0 (∀ j : Nat, j < i.toNat → (rd_T40 l j).f0.toList ≠ s.toList) ∧ Aside0 (Below w.heap.size w w'))
  case atStart => exact ⟨0, rfl, ⟨by omega, by omega⟩, ⟨fun j hj => absurd hj (by simp)⟩, ⟨Below.refl _ _⟩⟩
  case round =>
    obtain ⟨i, rfl, HI, HZ, HB⟩ := hrel
    cases gk with
    | zero =>
      have hlt : decide (i < (l.length : Int)) = false := decide_eq_false (by have := HI.out; omega)
      go_wp2
      go_ret
      have hz := HZ.out
      have hi := HI.out
      refine ⟨?_, HB.out⟩
      rw [idxN_drop s l i.toNat hz, List.drop_eq_nil_of_le (by omega)]
      rfl
    | succ k1 =>
      have hi := HI.out
      have hm := Kd.C_max HC.out
      have hlt : decide (i < (l.length : Int)) = true := decide_eq_true (by omega)
      have p1 : (0 ≤ i) = True := eq_true (by omega)
      have p2 : (i < (l.length : Int)) = True := eq_true (by omega)
      obtain ⟨ad, eA, hx0, hx1⟩ := at_T40 (Kd.C_below HC.out HB.out) i (by omega) (by omega)
      cases eA
      have HIN := Aside0.mk (show (rd_T40 l i).f0.toList = s.toList → idxN s l = i from fun h => by
        rw [idxN_drop s l i.toNat HZ.out, List.drop_eq_getElem_cons (show i.toNat < l.length by omega)]
        have hg : l[i.toNat]'(by omega) = rd_T40 l i := by simp [rd_T40, List.getD_eq_getElem?_getD, List.getElem?_eq_getElem (show i.toNat < l.length by omega)]
        rw [hg, idxN, if_pos h, if_neg (by omega)]
        omega)
      have hwr : IntKind.i64.wrap (i + 1) = i + 1 := (i64_w _).trans (by unfold wrap64; omega)
      have hwr2 : wrap64 (i + 1) = i + 1 := by unfold wrap64; omega
      clear hi hm
      by_cases hz : (rd_T40 l i).f0.toList = s.toList
      · have hzb : ((rd_T40 l i).f0.toList == s.toList) = true := beq_iff_eq.2 hz
        go_wp2_with (first
          | (go_at_call 58; (with_reducible refine (HF.out (rd_T40 l i) _ HB.out).mono ?_); rintro e w2 ⟨rfl, hb⟩; have HB2 := Aside0.mk (below_step HB.out hb); clear hb))
        go_ret
        exact ⟨by rw [HIN.out hz]; rfl, HB2.out⟩
      · have hzb : ((rd_T40 l i).f0.toList == s.toList) = false := beq_eq_false_iff_ne.2 hz
        have HZN := Aside0.mk hz
        clear hz
        go_wp2_with (first
          | (go_at_call 58; (with_reducible refine (HF.out (rd_T40 l i) _ HB.out).mono ?_); rintro e w2 ⟨rfl, hb⟩; have HB2 := Aside0.mk (below_step HB.out hb); clear hb))
        go_roundg k1
        case measure => omega
        case rel =>
          have hi := HI.out
          refine ⟨i + 1, rfl, ⟨by omega, by omega⟩, ⟨fun j hj => ?_⟩, HB2⟩
          by_cases hji : j = i.toNat
          · subst hji
            rw [show ((i.toNat : Nat) : Int) = i by omega]
            exact HZN.out
          · exact HZ.out j (by omega)
set_option maxHeartbeats 1000000 in
theorem indexNil_calls (fn : Value) (w : World) :
    Calls Tryd.prog 41 #[.slice none 0 0, fn] w fun e w' => e = .returned (.int .i64 (-1)) ∧ Below w.heap.size w w' := by
  have HB := Aside0.mk (Below.refl w.heap.size w)
  go_enter Tryd.func41, Tryd.ntmps41
  go_wp2
  go_loopg [8] 0 (fun kq v8 w' => v8 = .int .i64 0 ∧ w' = w)
  case atStart => exact ⟨rfl, rfl⟩
  case round =>
    obtain ⟨rfl, rfl⟩ := hrel
    cases gk with
    | zero =>
      go_wp2
      go_ret
      exact ⟨rfl, HB.out⟩
    | succ k1 =>
      go_wp2
      go_ret
      exact ⟨rfl, HB.out⟩
set_option maxHeartbeats 1000000 in
theorem deleteNil_calls (fn : Value) (w : World) :
    Calls Tryd.prog 38 #[.slice none 0 0, fn] w fun e w' => e = .returned (.slice none 0 0) ∧ Below w.heap.size w w' := by
  have HI := Aside0.mk (fun W => indexNil_calls fn W)
  go_enter Tryd.func38, Tryd.ntmps38
  go_wp2_with (first
    | (go_at_call 41; (with_reducible refine (HI.out _).mono ?_); rintro e w2 ⟨rfl, hb⟩; have HB := Aside0.mk hb; clear hb))
  go_ret
  exact ⟨rfl, HB.out⟩
set_option maxHeartbeats 4000000 in
set_option maxRecDepth 100000 in
theorem cloneNil_calls (w : World) :
    Calls Tryd.prog 39 #[.slice none 0 0] w fun e w' => e = .returned (.slice none 0 0) ∧ Below w.heap.size w w' := by
  have HB := Aside0.mk (Below.refl w.heap.size w)
  have q : ∀ (w : World) (a : Option Addr) (n c n' c' : Nat), (binOp .eql 22 (.slice a n c) (.slice none n' c')).run Tryd.prog w = .ok (.bool a.isNone) w := fun w a n c n' c' => Lib.run_eql_slice_nil w _ _ a n c n' c' Tryd.underlying22
  go_enter Tryd.func39, Tryd.ntmps39
  go_wp2
  go_ret
  exact ⟨rfl, HB.out⟩
set_option maxHeartbeats 4000000 in
set_option maxRecDepth 100000 in
theorem insertNil_calls (A : Addr) (x : S40) (w : World) (hC : Kd.C k40 w (some A) 1 [x]) :
    Calls Tryd.prog 43 #[.slice none 0 0, .int .i64 0, .slice (some A) 1 1] w fun e w' => ∃ v, e = .returned v ∧ Kd.R k40 40 w' w.heap.size (fun _ => True) v [x] ∧ Below w.heap.size w w' := by
  have HR0 := Aside0.mk hC
  have HB := Aside0.mk (Below.refl w.heap.size w)
  clear hC
  go_enter Tryd.func43, Tryd.ntmps43
  go_wp2_with (first
    | ((with_reducible refine gate_builtin (b := .append) (xs := #[.tmp 23, .tmp 24]) rfl ?_); at_builtin; refine Kd.R_append_rows k40 (w0 := w) w.heap.size rfl (.tmp 23) (.tmp 24) 22 40 (.agg #[(.string ⟨#[]⟩), (.string ⟨#[]⟩)]) 32 rfl Tryd.underlying22 info40 rfl (by decide) (by omega) (.slice none 0 0) ([] : List (S40)) [x] _ _ _ (fun _ => True) (fun _ => False) rfl rfl ?aO ?aR (fun _ _ h => h) (fun _ h => h.elim) ?aF ?aB ?aS ?aL ?_; (case aR => exact HR0.out); (case aB => exact HB.out); (case aF => exact (fun _ _ => trivial)); (case aO => exact ((Kd.R_nil _ _ _ _ (fun _ => True)))); (case aS => exact Nat.le_refl _); (case aL => decide); intro v13002 w3 ho hb hg hat; have n0_ := Aside0.mk (hb); have n1_ := Aside0.mk (ho); clear HB; have HB := n0_; have HO13003 := n1_; clear n0_ n1_; clear ho hb hg hat))
  go_ret
  exact ⟨_, rfl, HO13003.out, HB.out⟩
end Go.Proofs.YtefhngadeimklaaDoor.Q
end
section
namespace Go.Proofs.YtefhngadeimklaaDoor.Q
open Go.RowKit Go.Proofs.YtefhngadeimklaaDoorW.PrintWords Go.Proofs.YtefhngadeimklaaDoorW.PrintLast Go.Proofs.YtefhngadeimklaaDoorW.PrintMore
attribute [local go_sem] max2_int min2_int max_two min_two max_three min_three max_four min_four
set_option linter.unusedVariables false
def limS : ByteArray := ⟨#[98, 111, 111, 116, 45, 108, 105, 109, 105, 116]⟩
def tinderlaw19_alive.f : Option Bool := some true
theorem par_007 : parF (⟨#[48, 48, 55]⟩ : ByteArray) 10 = (7, 0) := by kernel_rfl
theorem show_7 : showB 10 7 = ⟨#[55]⟩ := by
  unfold showB
  rw [showL_small (by decide)]
  rfl
theorem find_lim : vars_find.f 20 (⟨#[98, 111, 111, 116, 45, 108, 105, 109, 105, 116]⟩ : ByteArray) = some (⟨#[98, 111, 111, 116, 45, 108, 105, 109, 105, 116]⟩, 1, ⟨#[53, 48, 48, 48]⟩, 3, true) := by kernel_rfl
theorem right_nil : vars_Right.f 5 [] = some true := by kernel_rfl
theorem form_7 : vars_Form.f 100 (⟨#[98, 111, 111, 116, 45, 108, 105, 109, 105, 116]⟩ : ByteArray) (⟨#[48, 48, 55]⟩ : ByteArray) = some (⟨#[55]⟩, 0) := by
  have h1 : vars_find.f 100 (⟨#[98, 111, 111, 116, 45, 108, 105, 109, 105, 116]⟩ : ByteArray) = some (⟨#[98, 111, 111, 116, 45, 108, 105, 109, 105, 116]⟩, 1, ⟨#[53, 48, 48, 48]⟩, 3, true) := by kernel_rfl
  have h2 : digit_Parse.f 100 (⟨#[48, 48, 55]⟩ : ByteArray) 10 = some (7, 0) := by rw [parse_eq _ _ _ (by decide) (by decide), par_007]
  have h3 : digit_Show.f 7 10 = some (⟨#[55]⟩, 0) := by
    unfold digit_Show.f
    rw [if_pos (by decide), if_pos rfl, show_7]
  unfold vars_Form.f vars_variable_form.f
  rw [h1, Option.bind_some, if_pos rfl, if_neg (by decide), if_pos rfl, h2, Option.bind_some, if_pos rfl, h3]
  rfl
theorem blk_keep {n i : Nat} {w w1 : World} {o : Obj} (hb : Below n w w1) (hi : i < n) (h : w.heap[i]? = some o) : w1.heap[i]? = some o := by rw [hb.block _ hi]; exact h
theorem two_get (w : World) (o o2 : Obj) : ((w.alloc o).alloc o2).heap[w.heap.size]? = some o := by
  unfold World.alloc
  simp [Array.getElem?_push]
theorem size_one (w : World) (o : Obj) : (w.alloc o).heap.size = w.heap.size + 1 := by
  unfold World.alloc
  simp
theorem size_two (w : World) (o o2 : Obj) : ((w.alloc o).alloc o2).heap.size = w.heap.size + 2 := by rw [size_one, size_one]
theorem get_one (w : World) (o : Obj) : (w.alloc o).heap[w.heap.size]? = some o := by
  unfold World.alloc
  simp
theorem C_one40 (W : World) (b : Nat) (x : S40) (h : W.heap[b]? = some (.cells #[.string x.f0, .string x.f1] 40 (0, 0))) : Kd.C k40 W (some ⟨b, 0, none⟩) 1 [x] := by
  refine ⟨rfl, by decide, fun _ => ⟨_, rfl, fun j p hj => ?_⟩⟩
  obtain ⟨hl, hp⟩ := List.getElem?_eq_some_iff.1 hj
  obtain rfl : j = 0 := by simpa using hl
  obtain rfl : x = p := hp
  refine ⟨_, rfl, k40_mk W x, fun j u hu => ?_⟩
  have := blk_cell h j
  rw [show (⟨b, 0, none⟩ : Addr).add (0 * k40.sz + j) = ⟨b, j, none⟩ from by rw [Nat.zero_mul, Nat.zero_add]; unfold Addr.add; split <;> simp_all]
  rw [this]
  simpa using hu
set_option maxHeartbeats 4000000 in
set_option maxRecDepth 100000 in
theorem setSeven_calls (w : World) (ht : Tabs w) :
    Calls Tryd.prog 13 #[.slice none 0 0, .string ⟨#[98, 111, 111, 116, 45, 108, 105, 109, 105, 116]⟩, .string ⟨#[48, 48, 55]⟩] w fun e w' => ∃ v, e = .returned (.tuple #[v, .int .i64 0]) ∧ Kd.R k40 40 w' w.heap.size (fun _ => True) v [⟨⟨#[98, 111, 111, 116, 45, 108, 105, 109, 105, 116]⟩, ⟨#[55]⟩⟩] ∧ Below w.heap.size w w' := by
  have hu57 := Tryd.underlying57
  have HT := Aside0.mk ht
  have HRI := Aside0.mk (fun (W : World) (hT : Tabs W) => (show Calls Tryd.prog 16 #[.slice none 0 0] W (fun e w' => e = .returned (.bool true) ∧ Below W.heap.size W w') from vars_Right.calls 5 none 0 [] true W hT (Kd.C_nil _ _) (Nat.le_refl _) right_nil))
  have HFM := Aside0.mk (fun (W : World) (hT : Tabs W) => vars_Form.calls 100 _ _ _ _ W hT form_7)
  have HFD := Aside0.mk (fun (W : World) => vars_find.calls 20 _ _ _ _ _ _ W find_lim)
  have HB := Aside0.mk (Below.refl w.heap.size w)
  clear ht
  go_enter Tryd.func13, Tryd.ntmps13
  go_wp2_with (first
    | (go_at_call 16; (with_reducible refine (HRI.out _ HT.out).mono ?_); rintro e w1 ⟨rfl, hb⟩; have HB := Aside0.mk hb; have HT := Aside0.mk (HT.out.below hb); clear hb)
    | (go_at_call 17; (with_reducible refine (HFM.out _ HT.out).mono ?_); rintro e w2 ⟨rfl, hb⟩; have HB := Aside0.mk (below_step HB.out hb); clear hb)
    | (go_at_call 39; (with_reducible refine (cloneNil_calls _).mono ?_); rintro e w4 ⟨rfl, hb⟩; have BK := Aside0.mk (show w4.heap[w3.heap.size]? = some (.cells #[.string ⟨#[98, 111, 111, 116, 45, 108, 105, 109, 105, 116]⟩, .int .i64 1, .string ⟨#[53, 48, 48, 48]⟩] 57 (0, 0)) from by rw [hb.block _ (by rw [size_two]; omega)]; exact two_get _ _ _); have HS := Aside0.mk (show w3.heap.size < w4.heap.size from Nat.lt_of_lt_of_le (by rw [size_two]; omega) hb.size); have HB := Aside0.mk (below_step (below_alloc (below_alloc HB.out _) _) hb); clear hb)
    | (go_at_call 40; (with_reducible refine (named_calls _ _).mono ?_); rintro e w5 ⟨gb, rfl, _, _, hb⟩; have BK := Aside0.mk (blk_keep hb HS.out BK.out); have HS := Aside0.mk (Nat.lt_of_lt_of_le HS.out hb.size); have HB := Aside0.mk (below_step HB.out hb); clear hb)
    | (go_at_call 38; (with_reducible refine (deleteNil_calls _ _).mono ?_); rintro e w6 ⟨rfl, hb⟩; have BK := Aside0.mk (blk_keep hb HS.out BK.out); have HB := Aside0.mk (below_step HB.out hb); clear hb; have hz0 := (blk_cell BK.out 0).trans rfl; have hz1 := (blk_cell BK.out 1).trans rfl; have hz2 := (blk_cell BK.out 2).trans rfl; have hf2 := blk_frozen BK.out 2)
    | (go_at_call 41; (with_reducible refine (indexNil_calls _ _).mono ?_); rintro e w7 ⟨rfl, hb⟩; have HB := Aside0.mk (below_step HB.out hb); clear hb)
    | (go_at_call 43; (with_reducible refine (insertNil_calls _ _ _ (C_one40 _ _ ⟨⟨#[98, 111, 111, 116, 45, 108, 105, 109, 105, 116]⟩, ⟨#[55]⟩⟩ ?hC)).mono ?_); (case hC => exact get_one _ _); rintro e w8 ⟨v, rfl, hr, hb⟩; have HR := Aside0.mk (Kd.R_lower hr (below_size (below_alloc HB.out _))); have HB := Aside0.mk (below_step (below_alloc HB.out _) hb); clear hb hr)
    | (go_at_call 37; (with_reducible refine (HFD.out _).mono ?_); rintro e w3 ⟨rfl, hb⟩; have HB := Aside0.mk (below_step HB.out hb); clear hb))
  go_ret2
  exact ⟨_, rfl, HR.out, HB.out⟩
set_option maxHeartbeats 2000000 in
set_option maxRecDepth 100000 in
theorem tinderlaw19_alive.calls (r : Bool) (w : World) (ht : Tabs w) (h : tinderlaw19_alive.f = some r) :
    Calls Tryd.prog 11 #[] w fun e w' => e = .returned (.bool r) ∧ Below w.heap.size w w' := by
  obtain rfl := Option.some.inj h
  have hu40 := Tryd.underlying40
  have HI := Aside0.mk (setSeven_calls w ht)
  have e1 : ((⟨#[98, 111, 111, 116, 45, 108, 105, 109, 105, 116]⟩ : ByteArray).toList == (⟨#[98, 111, 111, 116, 45, 108, 105, 109, 105, 116]⟩ : ByteArray).toList) = true := by rw [beq_iff_eq]
  clear ht h
  go_enter Tryd.func11, Tryd.ntmps11
  go_wp2_with (first
    | (go_at_call 13; refine HI.out.mono ?_; rintro e w1 ⟨v, rfl, hr, hb⟩; obtain ⟨A, c, rfl, hc, hC⟩ := Kd.R_reads hr; obtain ⟨ad, eA, hx0, hx1⟩ := at_T40 hC 0 (by decide) (by decide); cases eA; replace hx0 : w1.cell? ad = some (.string ⟨#[98, 111, 111, 116, 45, 108, 105, 109, 105, 116]⟩) := hx0; replace hx1 : w1.cell? ⟨ad.block, ad.off + 1, none⟩ = some (.string ⟨#[55]⟩) := hx1; have HB1 := Aside0.mk hb; clear hb hr hC hc))
  go_ret
  exact ⟨rfl, HB1.out⟩
end Go.Proofs.YtefhngadeimklaaDoor.Q
end
