/- Contracts of Go functions and plain facts, of several texts, one behind the other; no condition. -/
import Derived.Test.YtefhngadeimklaaDoorMVarsSets2
import Derived.Test.YtefhngadeimklaaDoorMVarsSets3
section
namespace Go.Proofs.YtefhngadeimklaaDoor.Q
open Go.RowKit Go.Proofs.YtefhngadeimklaaDoorW.PrintWords Go.Proofs.YtefhngadeimklaaDoorW.PrintLast Go.Proofs.YtefhngadeimklaaDoorW.PrintMore
set_option linter.unusedVariables false
set_option linter.unusedSimpArgs false

attribute [local go_sem] max2_int min2_int max_two min_two max_three min_three max_four min_four
/-! ### tinderref19_Form: function 18 -/
def tinderref19_Form.l0 : Nat → ByteArray → Int → Option (ByteArray × Int)
  | 0, _, _ => none
  | k + 1, x1, x14 => if x14 < (x1.size : Int) then (if 0 ≤ x14 then (if (bt x1 x14) < 32 then (some ((⟨#[]⟩ : ByteArray), 27)) else (if (bt x1 x14) > 126 then (some ((⟨#[]⟩ : ByteArray), 27)) else (tinderref19_Form.l0 k x1 (wrap64 (x14 + 1))))) else (none)) else (if (x1.size : Int) ≤ 128 then (some (x1, 0)) else (some ((⟨#[]⟩ : ByteArray), 27)))
def tinderref19_Form.f (k : Nat) (a0 : ByteArray) (a1 : ByteArray) : Option (ByteArray × Int) := (tinderref19_find.f k a0).bind fun t19001 => (if t19001 < 0 then (some ((⟨#[]⟩ : ByteArray), 2)) else ((tinderref19_Variable.f t19001).bind fun bt19002 => (if bt19002.2.1 = 98 then (if a1.toList = ([116, 114, 117, 101] : List UInt8) then (some (a1, 0)) else (if a1.toList = ([102, 97, 108, 115, 101] : List UInt8) then (some (a1, 0)) else (some ((⟨#[]⟩ : ByteArray), 27)))) else (if bt19002.2.1 = 110 then ((tinderref02_Parse.f k a1 10).bind fun bt19005 => (if bt19005.2 = 0 then ((tinderref02_Show.f bt19005.1 10).bind fun bt19007 => (some (bt19007.1, 0))) else (some ((⟨#[]⟩ : ByteArray), 27)))) else (tinderref19_Form.l0 k a1 0)))))
set_option maxHeartbeats 8000000 in
set_option maxRecDepth 100000 in
theorem tinderref19_Form.calls (k : Nat) (a0 : ByteArray) (a1 : ByteArray) (r1 : ByteArray) (r2 : Int) (w : World) (h : tinderref19_Form.f k a0 a1 = some (r1, r2)) :
    Calls Tryd.prog 18 #[.string a0, .string a1] w fun e w' => e = .returned (.tuple #[.string r1, .int .i64 r2]) ∧ Below w.heap.size w w' := by
  have HB := Aside0.mk (Below.refl w.heap.size w)
  have H : ((tinderref19_find.f k a0).bind fun t19001 => (if t19001 < 0 then (some ((⟨#[]⟩ : ByteArray), 2)) else ((tinderref19_Variable.f t19001).bind fun bt19002 => (if bt19002.2.1 = 98 then (if a1.toList = ([116, 114, 117, 101] : List UInt8) then (some (a1, 0)) else (if a1.toList = ([102, 97, 108, 115, 101] : List UInt8) then (some (a1, 0)) else (some ((⟨#[]⟩ : ByteArray), 27)))) else (if bt19002.2.1 = 110 then ((tinderref02_Parse.f k a1 10).bind fun bt19005 => (if bt19005.2 = 0 then ((tinderref02_Show.f bt19005.1 10).bind fun bt19007 => (some (bt19007.1, 0))) else (some ((⟨#[]⟩ : ByteArray), 27)))) else (tinderref19_Form.l0 k a1 0)))))) = some (r1, r2) := h
  clear h
  replace H := Option.bind_eq_some_iff.mp H
  obtain ⟨t19001, A30, H⟩ := H
  replace H : (if t19001 < 0 then (some ((⟨#[]⟩ : ByteArray), 2)) else ((tinderref19_Variable.f t19001).bind fun bt19002 => (if bt19002.2.1 = 98 then (if a1.toList = ([116, 114, 117, 101] : List UInt8) then (some (a1, 0)) else (if a1.toList = ([102, 97, 108, 115, 101] : List UInt8) then (some (a1, 0)) else (some ((⟨#[]⟩ : ByteArray), 27)))) else (if bt19002.2.1 = 110 then ((tinderref02_Parse.f k a1 10).bind fun bt19005 => (if bt19005.2 = 0 then ((tinderref02_Show.f bt19005.1 10).bind fun bt19007 => (some (bt19007.1, 0))) else (some ((⟨#[]⟩ : ByteArray), 27)))) else (tinderref19_Form.l0 k a1 0))))) = some (r1, r2) := H
  have A3 := Aside0.mk A30
  clear A30
  by_cases c4 : t19001 < 0
  · rw [if_pos c4] at H
    have c4b0 : decide (t19001 < 0) = true := decide_eq_true c4
    clear c4
    simp only [Option.some.injEq, Prod.mk.injEq] at H
    obtain ⟨rfl, rfl⟩ := H
    go_enter Tryd.func18, Tryd.ntmps18
    go_wp2_with (first | ((with_reducible refine gate_callee (f := 46) rfl ?_); refine goesL_ (some 16) rfl rfl Tryd.func46 (by kernel_rfl) rfl #[.string a0] rfl (by (try simp only [List.map_toArray, List.map_cons, List.map_nil]); first | done | rfl | (simp only [List.length_drop, List.length_take]; rfl)) ?_; (with_reducible refine (tinderref19_find.calls k a0 t19001 _ A3.out).mono ?_); rintro e w' ⟨rfl, ⟨nd, rfl⟩⟩; refine ⟨_, rfl, ?_⟩))
    go_ret2
    exact ⟨by first | rfl | (simp [errW_none, errW_some] <;> rfl) | (simp [*, errW_none, errW_some] <;> rfl), by repeat (first | (with_reducible first | exact HB.out | apply below_alloc | apply pw_below_drewN | apply below_drew1) | exact HB.out)⟩
  · rw [if_neg c4] at H
    have c4b0 : decide (t19001 < 0) = false := decide_eq_false c4
    clear c4
    replace H := Option.bind_eq_some_iff.mp H
    obtain ⟨⟨t19002, t19003, t19004⟩, A50, H⟩ := H
    replace H : (if t19003 = 98 then (if a1.toList = ([116, 114, 117, 101] : List UInt8) then (some (a1, 0)) else (if a1.toList = ([102, 97, 108, 115, 101] : List UInt8) then (some (a1, 0)) else (some ((⟨#[]⟩ : ByteArray), 27)))) else (if t19003 = 110 then ((tinderref02_Parse.f k a1 10).bind fun bt19005 => (if bt19005.2 = 0 then ((tinderref02_Show.f bt19005.1 10).bind fun bt19007 => (some (bt19007.1, 0))) else (some ((⟨#[]⟩ : ByteArray), 27)))) else (tinderref19_Form.l0 k a1 0))) = some (r1, r2) := H
    have A5 := Aside0.mk A50
    clear A50
    by_cases c6 : t19003 = 98
    · rw [if_pos c6] at H
      have c6b0 : (t19003 == 98) = true := beq_iff_eq.mpr c6
      have c6b1 : (t19003 != 98) = false := bne_eq_false_iff_eq.mpr c6
      clear c6
      by_cases c7 : a1.toList = ([116, 114, 117, 101] : List UInt8)
      · rw [if_pos c7] at H
        have c7b0 : (a1.toList == ([116, 114, 117, 101] : List UInt8)) = true := beq_iff_eq.mpr c7
        have c7b1 : (a1.toList != ([116, 114, 117, 101] : List UInt8)) = false := bne_eq_false_iff_eq.mpr c7
        clear c7
        simp only [Option.some.injEq, Prod.mk.injEq] at H
        obtain ⟨rfl, rfl⟩ := H
        go_enter Tryd.func18, Tryd.ntmps18
        go_wp2_with (first | ((with_reducible refine gate_callee (f := 46) rfl ?_); refine goesL_ (some 16) rfl rfl Tryd.func46 (by kernel_rfl) rfl #[.string a0] rfl (by (try simp only [List.map_toArray, List.map_cons, List.map_nil]); first | done | rfl | (simp only [List.length_drop, List.length_take]; rfl)) ?_; (with_reducible refine (tinderref19_find.calls k a0 t19001 _ A3.out).mono ?_); rintro e w' ⟨rfl, ⟨nd, rfl⟩⟩; refine ⟨_, rfl, ?_⟩) | ((with_reducible refine gate_callee (f := 47) rfl ?_); refine goesL_ (some 21) rfl rfl Tryd.func47 (by kernel_rfl) rfl #[.int .i64 t19001] rfl (by (try simp only [List.map_toArray, List.map_cons, List.map_nil]); first | done | rfl | (simp only [List.length_drop, List.length_take]; rfl)) ?_; (with_reducible refine (tinderref19_Variable.calls t19001 t19002 t19003 t19004 _ A5.out).mono ?_); rintro e w' ⟨rfl, ⟨nd, rfl⟩⟩; refine ⟨_, rfl, ?_⟩))
        go_ret2
        exact ⟨by first | rfl | (simp [errW_none, errW_some] <;> rfl) | (simp [*, errW_none, errW_some] <;> rfl), by repeat (first | (with_reducible first | exact HB.out | apply below_alloc | apply pw_below_drewN | apply below_drew1) | exact HB.out)⟩
      · rw [if_neg c7] at H
        have c7b0 : (a1.toList == ([116, 114, 117, 101] : List UInt8)) = false := beq_eq_false_iff_ne.mpr c7
        have c7b1 : (a1.toList != ([116, 114, 117, 101] : List UInt8)) = true := bne_iff_ne.mpr c7
        by_cases c8 : a1.toList = ([102, 97, 108, 115, 101] : List UInt8)
        · rw [if_pos c8] at H
          have c8b0 : (a1.toList == ([102, 97, 108, 115, 101] : List UInt8)) = true := beq_iff_eq.mpr c8
          have c8b1 : (a1.toList != ([102, 97, 108, 115, 101] : List UInt8)) = false := bne_eq_false_iff_eq.mpr c8
          clear c8
          simp only [Option.some.injEq, Prod.mk.injEq] at H
          obtain ⟨rfl, rfl⟩ := H
          go_enter Tryd.func18, Tryd.ntmps18
          go_wp2_with (first | ((with_reducible refine gate_callee (f := 46) rfl ?_); refine goesL_ (some 16) rfl rfl Tryd.func46 (by kernel_rfl) rfl #[.string a0] rfl (by (try simp only [List.map_toArray, List.map_cons, List.map_nil]); first | done | rfl | (simp only [List.length_drop, List.length_take]; rfl)) ?_; (with_reducible refine (tinderref19_find.calls k a0 t19001 _ A3.out).mono ?_); rintro e w' ⟨rfl, ⟨nd, rfl⟩⟩; refine ⟨_, rfl, ?_⟩) | ((with_reducible refine gate_callee (f := 47) rfl ?_); refine goesL_ (some 21) rfl rfl Tryd.func47 (by kernel_rfl) rfl #[.int .i64 t19001] rfl (by (try simp only [List.map_toArray, List.map_cons, List.map_nil]); first | done | rfl | (simp only [List.length_drop, List.length_take]; rfl)) ?_; (with_reducible refine (tinderref19_Variable.calls t19001 t19002 t19003 t19004 _ A5.out).mono ?_); rintro e w' ⟨rfl, ⟨nd, rfl⟩⟩; refine ⟨_, rfl, ?_⟩))
          go_ret2
          exact ⟨by first | rfl | (simp [errW_none, errW_some] <;> rfl) | (simp [*, errW_none, errW_some] <;> rfl), by repeat (first | (with_reducible first | exact HB.out | apply below_alloc | apply pw_below_drewN | apply below_drew1) | exact HB.out)⟩
        · rw [if_neg c8] at H
          have c8b0 : (a1.toList == ([102, 97, 108, 115, 101] : List UInt8)) = false := beq_eq_false_iff_ne.mpr c8
          have c8b1 : (a1.toList != ([102, 97, 108, 115, 101] : List UInt8)) = true := bne_iff_ne.mpr c8
          simp only [Option.some.injEq, Prod.mk.injEq] at H
          obtain ⟨rfl, rfl⟩ := H
          go_enter Tryd.func18, Tryd.ntmps18
          go_wp2_with (first | ((with_reducible refine gate_callee (f := 46) rfl ?_); refine goesL_ (some 16) rfl rfl Tryd.func46 (by kernel_rfl) rfl #[.string a0] rfl (by (try simp only [List.map_toArray, List.map_cons, List.map_nil]); first | done | rfl | (simp only [List.length_drop, List.length_take]; rfl)) ?_; (with_reducible refine (tinderref19_find.calls k a0 t19001 _ A3.out).mono ?_); rintro e w' ⟨rfl, ⟨nd, rfl⟩⟩; refine ⟨_, rfl, ?_⟩) | ((with_reducible refine gate_callee (f := 47) rfl ?_); refine goesL_ (some 21) rfl rfl Tryd.func47 (by kernel_rfl) rfl #[.int .i64 t19001] rfl (by (try simp only [List.map_toArray, List.map_cons, List.map_nil]); first | done | rfl | (simp only [List.length_drop, List.length_take]; rfl)) ?_; (with_reducible refine (tinderref19_Variable.calls t19001 t19002 t19003 t19004 _ A5.out).mono ?_); rintro e w' ⟨rfl, ⟨nd, rfl⟩⟩; refine ⟨_, rfl, ?_⟩))
          go_ret2
          exact ⟨by first | rfl | (simp [errW_none, errW_some] <;> rfl) | (simp [*, errW_none, errW_some] <;> rfl), by repeat (first | (with_reducible first | exact HB.out | apply below_alloc | apply pw_below_drewN | apply below_drew1) | exact HB.out)⟩
    · rw [if_neg c6] at H
      have c6b0 : (t19003 == 98) = false := beq_eq_false_iff_ne.mpr c6
      have c6b1 : (t19003 != 98) = true := bne_iff_ne.mpr c6
      by_cases c9 : t19003 = 110
      · rw [if_pos c9] at H
        have c9b0 : (t19003 == 110) = true := beq_iff_eq.mpr c9
        have c9b1 : (t19003 != 110) = false := bne_eq_false_iff_eq.mpr c9
        clear c9
        replace H := Option.bind_eq_some_iff.mp H
        obtain ⟨⟨t19005, t19006⟩, A100, H⟩ := H
        replace H : (if t19006 = 0 then ((tinderref02_Show.f t19005 10).bind fun bt19007 => (some (bt19007.1, 0))) else (some ((⟨#[]⟩ : ByteArray), 27))) = some (r1, r2) := H
        have A10 := Aside0.mk A100
        clear A100
        by_cases c11 : t19006 = 0
        · rw [if_pos c11] at H
          have c11b0 : (t19006 == 0) = true := beq_iff_eq.mpr c11
          have c11b1 : (t19006 != 0) = false := bne_eq_false_iff_eq.mpr c11
          clear c11
          replace H := Option.bind_eq_some_iff.mp H
          obtain ⟨⟨t19007, t19008⟩, A120, H⟩ := H
          replace H : (some (t19007, 0)) = some (r1, r2) := H
          have A12 := Aside0.mk A120
          clear A120
          simp only [Option.some.injEq, Prod.mk.injEq] at H
          obtain ⟨rfl, rfl⟩ := H
          go_enter Tryd.func18, Tryd.ntmps18
          go_wp2_with (first | ((with_reducible refine gate_callee (f := 46) rfl ?_); refine goesL_ (some 16) rfl rfl Tryd.func46 (by kernel_rfl) rfl #[.string a0] rfl (by (try simp only [List.map_toArray, List.map_cons, List.map_nil]); first | done | rfl | (simp only [List.length_drop, List.length_take]; rfl)) ?_; (with_reducible refine (tinderref19_find.calls k a0 t19001 _ A3.out).mono ?_); rintro e w' ⟨rfl, ⟨nd, rfl⟩⟩; refine ⟨_, rfl, ?_⟩) | ((with_reducible refine gate_callee (f := 47) rfl ?_); refine goesL_ (some 21) rfl rfl Tryd.func47 (by kernel_rfl) rfl #[.int .i64 t19001] rfl (by (try simp only [List.map_toArray, List.map_cons, List.map_nil]); first | done | rfl | (simp only [List.length_drop, List.length_take]; rfl)) ?_; (with_reducible refine (tinderref19_Variable.calls t19001 t19002 t19003 t19004 _ A5.out).mono ?_); rintro e w' ⟨rfl, ⟨nd, rfl⟩⟩; refine ⟨_, rfl, ?_⟩) | ((with_reducible refine gate_callee (f := 48) rfl ?_); refine goesL_ (some 59) rfl rfl Tryd.func48 (by kernel_rfl) rfl #[.string a1, .int .u32 10] rfl (by (try simp only [List.map_toArray, List.map_cons, List.map_nil]); first | done | rfl | (simp only [List.length_drop, List.length_take]; rfl)) ?_; (with_reducible refine (tinderref02_Parse.calls k a1 10 t19005 t19006 _ A10.out).mono ?_); rintro e w' ⟨rfl, ⟨nd, rfl⟩⟩; refine ⟨_, rfl, ?_⟩) | ((with_reducible refine gate_callee (f := 49) rfl ?_); refine goesL_ (some 66) rfl rfl Tryd.func49 (by kernel_rfl) rfl #[.int .u32 t19005, .int .u32 10] rfl (by (try simp only [List.map_toArray, List.map_cons, List.map_nil]); first | done | rfl | (simp only [List.length_drop, List.length_take]; rfl)) ?_; (with_reducible refine (tinderref02_Show.calls t19005 10 t19007 t19008 _ A12.out).mono ?_); rintro e w13 ⟨rfl, hb⟩; refine ⟨_, rfl, ?_⟩; have n0_ := Aside0.mk (below_step (by repeat (first | (with_reducible first | exact HB.out | apply below_alloc | apply pw_below_drewN | apply below_drew1) | exact HB.out)) hb); clear HB; have HB := n0_; clear n0_; (try clear hb); (try clear hb2); (try clear hk); (try clear hi)))
          go_ret2
          exact ⟨by first | rfl | (simp [errW_none, errW_some] <;> rfl) | (simp [*, errW_none, errW_some] <;> rfl), by repeat (first | (with_reducible first | exact HB.out | apply below_alloc | apply pw_below_drewN | apply below_drew1) | exact HB.out)⟩
        · rw [if_neg c11] at H
          have c11b0 : (t19006 == 0) = false := beq_eq_false_iff_ne.mpr c11
          have c11b1 : (t19006 != 0) = true := bne_iff_ne.mpr c11
          simp only [Option.some.injEq, Prod.mk.injEq] at H
          obtain ⟨rfl, rfl⟩ := H
          go_enter Tryd.func18, Tryd.ntmps18
          go_wp2_with (first | ((with_reducible refine gate_callee (f := 46) rfl ?_); refine goesL_ (some 16) rfl rfl Tryd.func46 (by kernel_rfl) rfl #[.string a0] rfl (by (try simp only [List.map_toArray, List.map_cons, List.map_nil]); first | done | rfl | (simp only [List.length_drop, List.length_take]; rfl)) ?_; (with_reducible refine (tinderref19_find.calls k a0 t19001 _ A3.out).mono ?_); rintro e w' ⟨rfl, ⟨nd, rfl⟩⟩; refine ⟨_, rfl, ?_⟩) | ((with_reducible refine gate_callee (f := 47) rfl ?_); refine goesL_ (some 21) rfl rfl Tryd.func47 (by kernel_rfl) rfl #[.int .i64 t19001] rfl (by (try simp only [List.map_toArray, List.map_cons, List.map_nil]); first | done | rfl | (simp only [List.length_drop, List.length_take]; rfl)) ?_; (with_reducible refine (tinderref19_Variable.calls t19001 t19002 t19003 t19004 _ A5.out).mono ?_); rintro e w' ⟨rfl, ⟨nd, rfl⟩⟩; refine ⟨_, rfl, ?_⟩) | ((with_reducible refine gate_callee (f := 48) rfl ?_); refine goesL_ (some 59) rfl rfl Tryd.func48 (by kernel_rfl) rfl #[.string a1, .int .u32 10] rfl (by (try simp only [List.map_toArray, List.map_cons, List.map_nil]); first | done | rfl | (simp only [List.length_drop, List.length_take]; rfl)) ?_; (with_reducible refine (tinderref02_Parse.calls k a1 10 t19005 t19006 _ A10.out).mono ?_); rintro e w' ⟨rfl, ⟨nd, rfl⟩⟩; refine ⟨_, rfl, ?_⟩))
          go_ret2
          exact ⟨by first | rfl | (simp [errW_none, errW_some] <;> rfl) | (simp [*, errW_none, errW_some] <;> rfl), by repeat (first | (with_reducible first | exact HB.out | apply below_alloc | apply pw_below_drewN | apply below_drew1) | exact HB.out)⟩
      · rw [if_neg c9] at H
        have c9b0 : (t19003 == 110) = false := beq_eq_false_iff_ne.mpr c9
        have c9b1 : (t19003 != 110) = true := bne_iff_ne.mpr c9
        have H' := Aside0.mk H
        clear H
        go_enter Tryd.func18, Tryd.ntmps18
        go_wp2_with (first | ((with_reducible refine gate_callee (f := 46) rfl ?_); refine goesL_ (some 16) rfl rfl Tryd.func46 (by kernel_rfl) rfl #[.string a0] rfl (by (try simp only [List.map_toArray, List.map_cons, List.map_nil]); first | done | rfl | (simp only [List.length_drop, List.length_take]; rfl)) ?_; (with_reducible refine (tinderref19_find.calls k a0 t19001 _ A3.out).mono ?_); rintro e w' ⟨rfl, ⟨nd, rfl⟩⟩; refine ⟨_, rfl, ?_⟩) | ((with_reducible refine gate_callee (f := 47) rfl ?_); refine goesL_ (some 21) rfl rfl Tryd.func47 (by kernel_rfl) rfl #[.int .i64 t19001] rfl (by (try simp only [List.map_toArray, List.map_cons, List.map_nil]); first | done | rfl | (simp only [List.length_drop, List.length_take]; rfl)) ?_; (with_reducible refine (tinderref19_Variable.calls t19001 t19002 t19003 t19004 _ A5.out).mono ?_); rintro e w' ⟨rfl, ⟨nd, rfl⟩⟩; refine ⟨_, rfl, ?_⟩))
        go_loopg [14] k (fun kq v14 w' => ∃ (x14_1 : Int), v14 = .int .i64 x14_1 ∧ Aside0 (tinderref19_Form.l0 kq a1 x14_1 = some (r1, r2)) ∧ Aside0 (kq ≤ k) ∧ Aside0 (Below w.heap.size w w'))
        case atStart => exact ⟨(0), (by first | rfl | (simp; done) | (simp [*]; done)), H', ⟨Nat.le_refl _⟩, ⟨by repeat (first | (with_reducible first | exact HB.out | apply below_alloc | apply pw_below_drewN | apply below_drew1) | exact HB.out)⟩⟩
        case round =>
          clear H'
          try clear c1
          try clear p2
          try clear c4
          try clear c4b0
          try clear c6
          try clear c6b0
          try clear c6b1
          try clear c7
          try clear c7b0
          try clear c7b1
          try clear c8
          try clear c8b0
          try clear c8b1
          try clear c9
          try clear c9b0
          try clear c9b1
          try clear c11
          try clear c11b0
          try clear c11b1
          obtain ⟨x14_1, rfl, HA, HK1, HB⟩ := hrel
          cases gk with
          | zero => exact absurd HA.out (by simp [tinderref19_Form.l0])
          | succ k1 =>
            have H := HA.out
            clear HA
            simp only [tinderref19_Form.l0] at H
            by_cases c14 : x14_1 < (a1.size : Int)
            · rw [if_pos c14] at H
              have c14b0 : decide (x14_1 < (a1.size : Int)) = true := decide_eq_true c14
              clear c14
              by_cases c15 : 0 ≤ x14_1
              · rw [if_pos c15] at H
                have c15b0 : decide (0 ≤ x14_1) = true := decide_eq_true c15
                clear c15
                by_cases c17 : (bt a1 x14_1) < 32
                · rw [if_pos c17] at H
                  have c17b0 : decide ((bt a1 x14_1) < 32) = true := decide_eq_true c17
                  clear c17
                  simp only [Option.some.injEq, Prod.mk.injEq] at H
                  obtain ⟨rfl, rfl⟩ := H
                  have p16 : 0 ≤ (x14_1 : Int) := of_decide_eq_true (by first | (with_reducible assumption) | assumption)
                  have q16 : x14_1 < (a1.size : Int) := of_decide_eq_true (by first | (with_reducible assumption) | assumption)
                  have hx16 := bt_at a1 x14_1
                  replace p16 := eq_true p16
                  replace q16 := eq_true q16
                  go_wp2
                  go_ret2
                  exact ⟨by first | rfl | (simp [errW_none, errW_some] <;> rfl) | (simp [*, errW_none, errW_some] <;> rfl), by repeat (first | (with_reducible first | exact HB.out | apply below_alloc | apply pw_below_drewN | apply below_drew1) | exact HB.out)⟩
                · rw [if_neg c17] at H
                  have c17b0 : decide ((bt a1 x14_1) < 32) = false := decide_eq_false c17
                  clear c17
                  by_cases c19 : (bt a1 x14_1) > 126
                  · rw [if_pos c19] at H
                    have c19b0 : decide (126 < (bt a1 x14_1)) = true := decide_eq_true c19
                    clear c19
                    simp only [Option.some.injEq, Prod.mk.injEq] at H
                    obtain ⟨rfl, rfl⟩ := H
                    have p16 : 0 ≤ (x14_1 : Int) := of_decide_eq_true (by first | (with_reducible assumption) | assumption)
                    have q16 : x14_1 < (a1.size : Int) := of_decide_eq_true (by first | (with_reducible assumption) | assumption)
                    have hx16 := bt_at a1 x14_1
                    replace p16 := eq_true p16
                    replace q16 := eq_true q16
                    have p18 : 0 ≤ (x14_1 : Int) := of_decide_eq_true (by first | (with_reducible assumption) | assumption)
                    have q18 : x14_1 < (a1.size : Int) := of_decide_eq_true (by first | (with_reducible assumption) | assumption)
                    have hx18 := bt_at a1 x14_1
                    replace p18 := eq_true p18
                    replace q18 := eq_true q18
                    go_wp2
                    go_ret2
                    exact ⟨by first | rfl | (simp [errW_none, errW_some] <;> rfl) | (simp [*, errW_none, errW_some] <;> rfl), by repeat (first | (with_reducible first | exact HB.out | apply below_alloc | apply pw_below_drewN | apply below_drew1) | exact HB.out)⟩
                  · rw [if_neg c19] at H
                    have c19b0 : decide (126 < (bt a1 x14_1)) = false := decide_eq_false c19
                    clear c19
                    have H' := Aside0.mk H
                    clear H
                    have p16 : 0 ≤ (x14_1 : Int) := of_decide_eq_true (by first | (with_reducible assumption) | assumption)
                    have q16 : x14_1 < (a1.size : Int) := of_decide_eq_true (by first | (with_reducible assumption) | assumption)
                    have hx16 := bt_at a1 x14_1
                    replace p16 := eq_true p16
                    replace q16 := eq_true q16
                    have p18 : 0 ≤ (x14_1 : Int) := of_decide_eq_true (by first | (with_reducible assumption) | assumption)
                    have q18 : x14_1 < (a1.size : Int) := of_decide_eq_true (by first | (with_reducible assumption) | assumption)
                    have hx18 := bt_at a1 x14_1
                    replace p18 := eq_true p18
                    replace q18 := eq_true q18
                    go_wp2
                    go_roundg k1
                    case measure => have := HK1.out; omega
                    case rel => exact ⟨(wrap64 (x14_1 + 1)), (by first | rfl | (simp; done) | (simp [*]; done)), H', ⟨by have := HK1.out; omega⟩, ⟨by repeat (first | (with_reducible first | exact HB.out | apply below_alloc | apply pw_below_drewN | apply below_drew1) | exact HB.out)⟩⟩
              · rw [if_neg c15] at H
                exact absurd H (by simp)
            · rw [if_neg c14] at H
              have c14b0 : decide (x14_1 < (a1.size : Int)) = false := decide_eq_false c14
              clear c14
              by_cases c20 : (a1.size : Int) ≤ 128
              · rw [if_pos c20] at H
                have c20b0 : decide ((a1.size : Int) ≤ 128) = true := decide_eq_true c20
                have c20b1 : decide (a1.size ≤ 128) = true := decide_eq_true (by omega)
                clear c20
                simp only [Option.some.injEq, Prod.mk.injEq] at H
                obtain ⟨rfl, rfl⟩ := H
                go_wp2
                go_ret2
                exact ⟨by first | rfl | (simp [errW_none, errW_some] <;> rfl) | (simp [*, errW_none, errW_some] <;> rfl), by repeat (first | (with_reducible first | exact HB.out | apply below_alloc | apply pw_below_drewN | apply below_drew1) | exact HB.out)⟩
              · rw [if_neg c20] at H
                have c20b0 : decide ((a1.size : Int) ≤ 128) = false := decide_eq_false c20
                have c20b1 : decide (a1.size ≤ 128) = false := decide_eq_false (by omega)
                clear c20
                simp only [Option.some.injEq, Prod.mk.injEq] at H
                obtain ⟨rfl, rfl⟩ := H
                go_wp2
                go_ret2
                exact ⟨by first | rfl | (simp [errW_none, errW_some] <;> rfl) | (simp [*, errW_none, errW_some] <;> rfl), by repeat (first | (with_reducible first | exact HB.out | apply below_alloc | apply pw_below_drewN | apply below_drew1) | exact HB.out)⟩

end Go.Proofs.YtefhngadeimklaaDoor.Q
end
section
namespace Go.Proofs.YtefhngadeimklaaDoor.Q
open Go.RowKit Go.Proofs.YtefhngadeimklaaDoorW.PrintWords Go.Proofs.YtefhngadeimklaaDoorW.PrintLast Go.Proofs.YtefhngadeimklaaDoorW.PrintMore
set_option linter.unusedVariables false
set_option linter.unusedSimpArgs false

attribute [local go_sem] max2_int min2_int max_two min_two max_three min_three max_four min_four
/-! ### tinderref19_Right: function 25 -/
def tinderref19_Right.l0 : Nat → List (S40) → Int → Int → Option (Bool)
  | 0, _, _, _ => none
  | k + 1, x0, x3, x4 => if x4 < (x0.length : Int) then (if 0 ≤ x4 then ((tinderref19_find.f k ((rd_T40 x0 x4).f0)).bind fun t26002 => (if t26002 ≤ x3 then (some false) else ((tinderref19_Form.f k ((rd_T40 x0 x4).f0) ((rd_T40 x0 x4).f1)).bind fun bt26005 => ((tinderref19_Default.f k ((rd_T40 x0 x4).f0)).bind fun bt26008 => (if bt26005.2 = 0 then (if bt26005.1.toList = ((rd_T40 x0 x4).f1).toList then (if bt26005.1.toList = bt26008.1.toList then (some false) else (tinderref19_Right.l0 k x0 t26002 (wrap64 (x4 + 1)))) else (some false)) else (some false)))))) else (none)) else (some true)
def tinderref19_Right.f (k : Nat) (l0 : List (S40)) : Option (Bool) := tinderref19_Right.l0 k l0 (-1) 0
def tinderref19_Right.T9 : Bool × List (List Nat × List Nat) := (true, [([], []), ([], []), ([0, 1], [0, 1]), ([2], [2]), ([3], [3]), ([], []), ([], []), ([5, 6], [5, 6]), ([7], [7]), ([8], [8]), ([4, 9], [4, 9]), ([10], [10]), ([11], [11]), ([11], [11]), ([12, 10, 0, 1, 2, 3, 4, 5, 6, 7, 8, 9, 10, 11, 12], [12]), ([13, 14, 0, 1, 2, 3, 4, 5, 6, 7, 8, 9, 10, 11, 12, 13, 14], [13])])
def tinderref19_Right.B9 : List Nat := [0, 0, 3, 7, 15, 0, 0, 96, 224, 480, 1023, 2047, 4095, 4095, 8191, 32767]
theorem tinderref19_Right.tab9 : rtab .any (opsOf Tryd.f25 9) = tinderref19_Right.T9 := by kernel_rfl
theorem tinderref19_Right.bits9 : waitsOk tinderref19_Right.T9.2 tinderref19_Right.B9 = true := by kernel_rfl
set_option maxHeartbeats 8000000 in
set_option maxRecDepth 100000 in
theorem tinderref19_Right.calls (k : Nat) (A0 : Option Addr) (c0 : Nat) (l0 : List (S40)) (r : Bool) (w : World) (hr0 : Kd.C k40 w A0 l0.length l0) (hc0 : l0.length ≤ c0) (h : tinderref19_Right.f k l0 = some r) :
    Calls Tryd.prog 25 #[.slice A0 l0.length c0] w fun e w' => e = .returned (.bool r) ∧ Below w.heap.size w w' := by
  have HR0 := Aside0.mk hr0
  have HC0 := Aside0.mk hc0
  clear hr0 hc0
  have HB := Aside0.mk (Below.refl w.heap.size w)
  have H : (tinderref19_Right.l0 k l0 (-1) 0) = some r := h
  clear h
  have H' := Aside0.mk H
  clear H
  go_enter Tryd.func25, Tryd.ntmps25
  go_wp2
  go_loopg [3, 4] k (fun kq v3 v4 w' => ∃ (x3_1 : Int) (x4_1 : Int), v3 = .int .i64 x3_1 ∧ v4 = .int .i64 x4_1 ∧ Aside0 (tinderref19_Right.l0 kq l0 x3_1 x4_1 = some r) ∧ Aside0 (kq ≤ k) ∧ Aside0 (Below w.heap.size w w'))
  case atStart => exact ⟨((-1)), (0), (by first | rfl | (simp; done) | (simp [*]; done)), (by first | rfl | (simp; done) | (simp [*]; done)), H', ⟨Nat.le_refl _⟩, ⟨by repeat (first | (with_reducible first | exact HB.out | apply below_alloc | apply pw_below_drewN | apply below_drew1) | exact HB.out)⟩⟩
  case round =>
    clear H'
    obtain ⟨x3_1, x4_1, rfl, rfl, HA, HK1, HB⟩ := hrel
    cases gk with
    | zero => exact absurd HA.out (by simp [tinderref19_Right.l0])
    | succ k1 =>
      have H := HA.out
      clear HA
      simp only [tinderref19_Right.l0] at H
      by_cases c2 : x4_1 < (l0.length : Int)
      · rw [if_pos c2] at H
        have c2b0 : decide (x4_1 < (l0.length : Int)) = true := decide_eq_true c2
        clear c2
        by_cases c3 : 0 ≤ x4_1
        · rw [if_pos c3] at H
          have c3b0 : decide (0 ≤ x4_1) = true := decide_eq_true c3
          clear c3
          replace H := Option.bind_eq_some_iff.mp H
          obtain ⟨t26002, A40, H⟩ := H
          replace H : (if t26002 ≤ x3_1 then (some false) else ((tinderref19_Form.f k1 ((rd_T40 l0 x4_1).f0) ((rd_T40 l0 x4_1).f1)).bind fun bt26005 => ((tinderref19_Default.f k1 ((rd_T40 l0 x4_1).f0)).bind fun bt26008 => (if bt26005.2 = 0 then (if bt26005.1.toList = ((rd_T40 l0 x4_1).f1).toList then (if bt26005.1.toList = bt26008.1.toList then (some false) else (tinderref19_Right.l0 k1 l0 t26002 (wrap64 (x4_1 + 1)))) else (some false)) else (some false))))) = some r := H
          have A4 := Aside0.mk A40
          clear A40
          by_cases c5 : t26002 ≤ x3_1
          · rw [if_pos c5] at H
            have c5b0 : decide (t26002 ≤ x3_1) = true := decide_eq_true c5
            clear c5
            obtain rfl := Option.some.inj H
            have p26001 : 0 ≤ (x4_1 : Int) := of_decide_eq_true (by first | (with_reducible assumption) | assumption)
            have q26001 : x4_1 < (l0.length : Int) := of_decide_eq_true (by first | (with_reducible assumption) | assumption)
            obtain ⟨ad26001, e26001, hx26001_0, hx26001_1⟩ := at_T40 HR0.out x4_1 p26001 q26001
            cases e26001
            replace hx26001_0 := (HB.out.cell (World.block_lt_of_cell? w _ hx26001_0)).trans hx26001_0
            replace hx26001_1 := (HB.out.cell (World.block_lt_of_cell? w _ hx26001_1)).trans hx26001_1
            replace p26001 := eq_true p26001
            replace q26001 := eq_true q26001
            go_wp2_with (first | ((with_reducible refine gate_callee (f := 46) rfl ?_); refine goesL_ (some 21) rfl rfl Tryd.func46 (by kernel_rfl) rfl #[.string ((rd_T40 l0 x4_1).f0)] rfl (by (try simp only [List.map_toArray, List.map_cons, List.map_nil]); first | done | rfl | (simp only [List.length_drop, List.length_take]; rfl)) ?_; (with_reducible refine (tinderref19_find.calls k1 ((rd_T40 l0 x4_1).f0) t26002 _ A4.out).mono ?_); rintro e w' ⟨rfl, ⟨nd, rfl⟩⟩; refine ⟨_, rfl, ?_⟩))
            go_ret
            exact ⟨by first | rfl | (simp [errW_none, errW_some] <;> rfl) | (simp [*, errW_none, errW_some] <;> rfl), by repeat (first | (with_reducible first | exact HB.out | apply below_alloc | apply pw_below_drewN | apply below_drew1) | exact HB.out)⟩
          · rw [if_neg c5] at H
            have c5b0 : decide (t26002 ≤ x3_1) = false := decide_eq_false c5
            clear c5
            replace H := Option.bind_eq_some_iff.mp H
            obtain ⟨⟨t26005, t26006⟩, A60, H⟩ := H
            replace H : ((tinderref19_Default.f k1 ((rd_T40 l0 x4_1).f0)).bind fun bt26008 => (if t26006 = 0 then (if t26005.toList = ((rd_T40 l0 x4_1).f1).toList then (if t26005.toList = bt26008.1.toList then (some false) else (tinderref19_Right.l0 k1 l0 t26002 (wrap64 (x4_1 + 1)))) else (some false)) else (some false))) = some r := H
            have A6 := Aside0.mk A60
            clear A60
            replace H := Option.bind_eq_some_iff.mp H
            obtain ⟨⟨t26008, t26009⟩, A70, H⟩ := H
            replace H : (if t26006 = 0 then (if t26005.toList = ((rd_T40 l0 x4_1).f1).toList then (if t26005.toList = t26008.toList then (some false) else (tinderref19_Right.l0 k1 l0 t26002 (wrap64 (x4_1 + 1)))) else (some false)) else (some false)) = some r := H
            have A7 := Aside0.mk A70
            clear A70
            by_cases c8 : t26006 = 0
            · rw [if_pos c8] at H
              have c8b0 : (t26006 == 0) = true := beq_iff_eq.mpr c8
              have c8b1 : (t26006 != 0) = false := bne_eq_false_iff_eq.mpr c8
              clear c8
              by_cases c9 : t26005.toList = ((rd_T40 l0 x4_1).f1).toList
              · rw [if_pos c9] at H
                have c9b0 : (t26005.toList == ((rd_T40 l0 x4_1).f1).toList) = true := beq_iff_eq.mpr c9
                have c9b1 : (t26005.toList != ((rd_T40 l0 x4_1).f1).toList) = false := bne_eq_false_iff_eq.mpr c9
                clear c9
                by_cases c10 : t26005.toList = t26008.toList
                · rw [if_pos c10] at H
                  have c10b0 : (t26005.toList == t26008.toList) = true := beq_iff_eq.mpr c10
                  have c10b1 : (t26005.toList != t26008.toList) = false := bne_eq_false_iff_eq.mpr c10
                  clear c10
                  obtain rfl := Option.some.inj H
                  have p26001 : 0 ≤ (x4_1 : Int) := of_decide_eq_true (by first | (with_reducible assumption) | assumption)
                  have q26001 : x4_1 < (l0.length : Int) := of_decide_eq_true (by first | (with_reducible assumption) | assumption)
                  obtain ⟨ad26001, e26001, hx26001_0, hx26001_1⟩ := at_T40 HR0.out x4_1 p26001 q26001
                  cases e26001
                  replace hx26001_0 := (HB.out.cell (World.block_lt_of_cell? w _ hx26001_0)).trans hx26001_0
                  replace hx26001_1 := (HB.out.cell (World.block_lt_of_cell? w _ hx26001_1)).trans hx26001_1
                  replace p26001 := eq_true p26001
                  replace q26001 := eq_true q26001
                  try go_wp2_with (first | ((with_reducible refine gate_callee (f := 46) rfl ?_); refine goesL_ (some 21) rfl rfl Tryd.func46 (by kernel_rfl) rfl #[.string ((rd_T40 l0 x4_1).f0)] rfl (by (try simp only [List.map_toArray, List.map_cons, List.map_nil]); first | done | rfl | (simp only [List.length_drop, List.length_take]; rfl)) ?_; (with_reducible refine (tinderref19_find.calls k1 ((rd_T40 l0 x4_1).f0) t26002 _ A4.out).mono ?_); rintro e w' ⟨rfl, ⟨nd, rfl⟩⟩; refine ⟨_, rfl, ?_⟩))
                  (try (rw [drewN_self wr]; generalize hq_ : World.drewN wr _ = wr; have n0_ : Aside0 (Below w.heap.size w wr) := ⟨by rw [← hq_]; exact (by repeat (first | (with_reducible first | exact HB.out | apply below_alloc | apply pw_below_drewN | apply below_drew1) | exact HB.out))⟩; clear HB hq_; have HB := n0_; clear n0_))
                  have n0_ := Aside0.mk (below_drew1 HB.out)
                  clear HB
                  have HB := n0_
                  clear n0_
                  have p26003 : 0 ≤ (x4_1 : Int) := of_decide_eq_true (by first | (with_reducible assumption) | assumption)
                  have q26003 : x4_1 < (l0.length : Int) := of_decide_eq_true (by first | (with_reducible assumption) | assumption)
                  obtain ⟨ad26003, e26003, hx26003_0, hx26003_1⟩ := at_T40 HR0.out x4_1 p26003 q26003
                  have hw26003_1 := hx26003_1
                  have hw26003_0 := hx26003_0
                  obtain rfl : ad26001 = ad26003 := (by injection e26003)
                  replace hx26003_0 := (HB.out.cell (World.block_lt_of_cell? w _ hx26003_0)).trans hx26003_0
                  replace hx26003_1 := (HB.out.cell (World.block_lt_of_cell? w _ hx26003_1)).trans hx26003_1
                  replace p26003 := eq_true p26003
                  replace q26003 := eq_true q26003
                  have p26004 : 0 ≤ (x4_1 : Int) := of_decide_eq_true (by first | (with_reducible assumption) | assumption)
                  have q26004 : x4_1 < (l0.length : Int) := of_decide_eq_true (by first | (with_reducible assumption) | assumption)
                  obtain ⟨ad26004, e26004, hx26004_0, hx26004_1⟩ := at_T40 HR0.out x4_1 p26004 q26004
                  have hw26004_1 := hx26004_1
                  have hw26004_0 := hx26004_0
                  obtain rfl : ad26001 = ad26004 := (by injection e26004)
                  replace hx26004_0 := (HB.out.cell (World.block_lt_of_cell? w _ hx26004_0)).trans hx26004_0
                  replace hx26004_1 := (HB.out.cell (World.block_lt_of_cell? w _ hx26004_1)).trans hx26004_1
                  replace p26004 := eq_true p26004
                  replace q26004 := eq_true q26004
                  refine start_ (n := 16) (S := fun w' => w'.cell? (ad26001.add ((x4_1).toNat * 2)) = some (.string ((rd_T40 l0 x4_1).f0)) ∧ w'.cell? ⟨(ad26001.add ((x4_1).toNat * 2)).block, (ad26001.add ((x4_1).toNat * 2)).off + 1, none⟩ = some (.string ((rd_T40 l0 x4_1).f1)) ∧ w'.cell? (ad26001.add ((x4_1).toNat * 2)) = some (.string ((rd_T40 l0 x4_1).f0)) ∧ w'.cell? ⟨(ad26001.add ((x4_1).toNat * 2)).block, (ad26001.add ((x4_1).toNat * 2)).off + 1, none⟩ = some (.string ((rd_T40 l0 x4_1).f1))) (ds := []) #[false, false, false, false, false, false, false, false, false, false, false, false, false, false, false, false] (by kernel_rfl) rfl rfl ⟨((HB.out.cell (World.block_lt_of_cell? w _ hw26003_0)).trans hw26003_0), ((HB.out.cell (World.block_lt_of_cell? w _ hw26003_1)).trans hw26003_1), ((HB.out.cell (World.block_lt_of_cell? w _ hw26004_0)).trans hw26004_0), ((HB.out.cell (World.block_lt_of_cell? w _ hw26004_1)).trans hw26004_1)⟩ (fun hHeld => ?_); refine with_tabW tinderref19_Right.tab9 tinderref19_Right.bits9 (fun HT_ HW_ => ?_)
                  generalize wr.drew = w11 at HB hx26003_0 hx26003_1 hx26004_0 hx26004_1 hHeld ⊢
                  refine pure_ (i := 0) (N := some 27) (v := ?_) (a' := ?_) #[true, false, false, false, false, false, false, false, false, false, false, false, false, false, false, false] rfl rfl (any_of HT_.out (by kernel_rfl)) (fun _ _ _ h => h) (Or.inl ⟨by rfl, ?_⟩) ?_ ?_
                  rotate_left
                  · intro w'
                    go_simp
                    with_reducible rfl
                  rotate_left
                  · simp only [Act.put, List.setIfInBounds_toArray, List.set_cons_zero, List.set_cons_succ, i64_w, i32_w]
                    rfl
                  refine pure_ (i := 1) (N := some 28) (v := ?_) (a' := ?_) #[true, true, false, false, false, false, false, false, false, false, false, false, false, false, false, false] rfl rfl (any_of HT_.out (by kernel_rfl)) (fun _ _ _ h => h) (Or.inl ⟨by rfl, ?_⟩) ?_ ?_
                  rotate_left
                  · intro w'
                    go_simp
                    with_reducible rfl
                  rotate_left
                  · simp only [Act.put, List.setIfInBounds_toArray, List.set_cons_zero, List.set_cons_succ, i64_w, i32_w]
                    rfl
                  refine pure_ (i := 2) (N := some 29) (v := ?_) (a' := ?_) #[true, true, true, false, false, false, false, false, false, false, false, false, false, false, false, false] rfl rfl (any_of HT_.out (by kernel_rfl)) (fun _ _ _ h => h) (Or.inl ⟨by rfl, ?_⟩) ?_ ?_
                  rotate_left
                  · intro w'
                    go_simp
                    with_reducible rfl
                  rotate_left
                  · simp only [Act.put, List.setIfInBounds_toArray, List.set_cons_zero, List.set_cons_succ, i64_w, i32_w]
                    rfl
                  refine pure_ (i := 3) (N := some 30) (v := ?_) (a' := ?_) #[true, true, true, true, false, false, false, false, false, false, false, false, false, false, false, false] rfl rfl (any_of HT_.out (by kernel_rfl)) (fun _ _ _ h => h) (Or.inl ⟨by rfl, ?_⟩) ?_ ?_
                  rotate_left
                  · intro w'
                    go_simp
                    with_reducible rfl
                  rotate_left
                  · simp only [Act.put, List.setIfInBounds_toArray, List.set_cons_zero, List.set_cons_succ, i64_w, i32_w]
                    rfl
                  refine pure_ (i := 5) (N := some 32) (v := ?_) (a' := ?_) #[true, true, true, true, false, true, false, false, false, false, false, false, false, false, false, false] rfl rfl (any_of HT_.out (by kernel_rfl)) (fun _ _ _ h => h) (Or.inl ⟨by rfl, ?_⟩) ?_ ?_
                  rotate_left
                  · intro w'
                    go_simp
                    with_reducible rfl
                  rotate_left
                  · simp only [Act.put, List.setIfInBounds_toArray, List.set_cons_zero, List.set_cons_succ, i64_w, i32_w]
                    rfl
                  refine pure_ (i := 6) (N := some 33) (v := ?_) (a' := ?_) #[true, true, true, true, false, true, true, false, false, false, false, false, false, false, false, false] rfl rfl (any_of HT_.out (by kernel_rfl)) (fun _ _ _ h => h) (Or.inl ⟨by rfl, ?_⟩) ?_ ?_
                  rotate_left
                  · intro w'
                    go_simp
                    with_reducible rfl
                  rotate_left
                  · simp only [Act.put, List.setIfInBounds_toArray, List.set_cons_zero, List.set_cons_succ, i64_w, i32_w]
                    rfl
                  refine pure_ (i := 7) (N := some 34) (v := ?_) (a' := ?_) #[true, true, true, true, false, true, true, true, false, false, false, false, false, false, false, false] rfl rfl (any_of HT_.out (by kernel_rfl)) (fun _ _ _ h => h) (Or.inl ⟨by rfl, ?_⟩) ?_ ?_
                  rotate_left
                  · intro w'
                    go_simp
                    with_reducible rfl
                  rotate_left
                  · simp only [Act.put, List.setIfInBounds_toArray, List.set_cons_zero, List.set_cons_succ, i64_w, i32_w]
                    rfl
                  refine pure_ (i := 8) (N := some 35) (v := ?_) (a' := ?_) #[true, true, true, true, false, true, true, true, true, false, false, false, false, false, false, false] rfl rfl (any_of HT_.out (by kernel_rfl)) (fun _ _ _ h => h) (Or.inl ⟨by rfl, ?_⟩) ?_ ?_
                  rotate_left
                  · intro w'
                    go_simp
                    with_reducible rfl
                  rotate_left
                  · simp only [Act.put, List.setIfInBounds_toArray, List.set_cons_zero, List.set_cons_succ, i64_w, i32_w]
                    rfl
                  refine take_ (i := 4) (N := some 31) (v := ?_) (a' := ?_) #[true, true, true, true, true, true, true, true, true, false, false, false, false, false, false, false] rfl rfl (take_ofW HT_.out HW_.out (by kernel_rfl)) (fun _ _ _ h => h) (Or.inl ⟨by rfl, ?_⟩) hHeld ?_ ?_
                  rotate_left
                  · rintro w' ⟨s0, s1, s2, s3⟩
                    go_simp
                    with_reducible rfl
                  rotate_left
                  · simp only [Act.put, List.setIfInBounds_toArray, List.set_cons_zero, List.set_cons_succ, i64_w, i32_w]
                    rfl
                  refine take_ (i := 9) (N := some 36) (v := ?_) (a' := ?_) #[true, true, true, true, true, true, true, true, true, true, false, false, false, false, false, false] rfl rfl (take_ofW HT_.out HW_.out (by kernel_rfl)) (fun _ _ _ h => h) (Or.inl ⟨by rfl, ?_⟩) hHeld ?_ ?_
                  rotate_left
                  · rintro w' ⟨s0, s1, s2, s3⟩
                    go_simp
                    with_reducible rfl
                  rotate_left
                  · simp only [Act.put, List.setIfInBounds_toArray, List.set_cons_zero, List.set_cons_succ, i64_w, i32_w]
                    rfl
                  refine one_ (i := 10) (N := some 37) #[true, true, true, true, true, true, true, true, true, true, true, false, false, false, false, false] rfl rfl (one_of HT_.out (by kernel_rfl)) (by decide) (fun K hK => ?_)
                  refine goes_ Tryd.func18 (by kernel_rfl) rfl #[.string ((rd_T40 l0 x4_1).f0), .string ((rd_T40 l0 x4_1).f1)] (by rfl) rfl rfl (by (try simp only [List.map_toArray, List.map_cons, List.map_nil]); first | done | rfl | (simp only [List.length_drop, List.length_take]; rfl)) ?_
                  with_reducible refine (tinderref19_Form.calls k1 ((rd_T40 l0 x4_1).f0) ((rd_T40 l0 x4_1).f1) t26005 t26006 _ A6.out).mono ?_
                  rintro e w12 ⟨rfl, hb⟩
                  refine ⟨_, rfl, ?_⟩
                  have n0_ := Aside0.mk (below_step (by repeat (first | (with_reducible first | exact HB.out | apply below_alloc | apply pw_below_drewN | apply below_drew1) | exact HB.out)) hb)
                  clear HB
                  have HB := n0_
                  clear n0_
                  (try clear hb)
                  (try clear hb2)
                  (try clear hk)
                  (try clear hi)
                  refine hK.out _ _ ⟨((HB.out.cell (World.block_lt_of_cell? w _ hw26003_0)).trans hw26003_0), ((HB.out.cell (World.block_lt_of_cell? w _ hw26003_1)).trans hw26003_1), ((HB.out.cell (World.block_lt_of_cell? w _ hw26004_0)).trans hw26004_0), ((HB.out.cell (World.block_lt_of_cell? w _ hw26004_1)).trans hw26004_1)⟩ (fun hHeld => ?_)
                  clear hK K
                  refine norm_ (a' := ?_) ?_ ?_
                  rotate_left
                  · show Act.put _ (some 37) _ = _
                    simp only [Act.put, List.setIfInBounds_toArray, List.set_cons_zero, List.set_cons_succ, i64_w, i32_w]
                    rfl
                  refine pure_ (i := 11) (N := some 26) (v := ?_) (a' := ?_) #[true, true, true, true, true, true, true, true, true, true, true, true, false, false, false, false] rfl rfl (any_of HT_.out (by kernel_rfl)) (fun _ _ _ h => h) (Or.inl ⟨by rfl, ?_⟩) ?_ ?_
                  rotate_left
                  · intro w'
                    go_simp
                    with_reducible rfl
                  rotate_left
                  · simp only [Act.put, List.setIfInBounds_toArray, List.set_cons_zero, List.set_cons_succ, i64_w, i32_w]
                    rfl
                  refine pure_ (i := 12) (N := some 38) (v := ?_) (a' := ?_) #[true, true, true, true, true, true, true, true, true, true, true, true, true, false, false, false] rfl rfl (any_of HT_.out (by kernel_rfl)) (fun _ _ _ h => h) (Or.inl ⟨by rfl, ?_⟩) ?_ ?_
                  rotate_left
                  · intro w'
                    go_simp
                    with_reducible rfl
                  rotate_left
                  · simp only [Act.put, List.setIfInBounds_toArray, List.set_cons_zero, List.set_cons_succ, i64_w, i32_w]
                    rfl
                  refine pure_ (i := 13) (N := some 39) (v := ?_) (a' := ?_) #[true, true, true, true, true, true, true, true, true, true, true, true, true, true, false, false] rfl rfl (any_of HT_.out (by kernel_rfl)) (fun _ _ _ h => h) (Or.inl ⟨by rfl, ?_⟩) ?_ ?_
                  rotate_left
                  · intro w'
                    go_simp
                    with_reducible rfl
                  rotate_left
                  · simp only [Act.put, List.setIfInBounds_toArray, List.set_cons_zero, List.set_cons_succ, i64_w, i32_w]
                    rfl
                  refine pure_ (i := 14) (N := some 6) (v := ?_) (a' := ?_) #[true, true, true, true, true, true, true, true, true, true, true, true, true, true, true, false] rfl rfl (any_of HT_.out (by kernel_rfl)) (fun _ _ _ h => h) (Or.inl ⟨by rfl, ?_⟩) ?_ ?_
                  rotate_left
                  · intro w'
                    go_simp
                    with_reducible rfl
                  rotate_left
                  · simp only [Act.put, List.setIfInBounds_toArray, List.set_cons_zero, List.set_cons_succ, i64_w, i32_w]
                    rfl
                  refine pure_ (i := 15) (N := some 7) (v := ?_) (a' := ?_) #[true, true, true, true, true, true, true, true, true, true, true, true, true, true, true, true] rfl rfl (any_of HT_.out (by kernel_rfl)) (fun _ _ _ h => h) (Or.inl ⟨by rfl, ?_⟩) ?_ ?_
                  rotate_left
                  · intro w'
                    go_simp
                    with_reducible rfl
                  rotate_left
                  · simp only [Act.put, List.setIfInBounds_toArray, List.set_cons_zero, List.set_cons_succ, i64_w, i32_w]
                    rfl
                  refine done_ (done_of HT_.out (by kernel_rfl)) ?_
                  have p26007 : 0 ≤ (x4_1 : Int) := of_decide_eq_true (by first | (with_reducible assumption) | assumption)
                  have q26007 : x4_1 < (l0.length : Int) := of_decide_eq_true (by first | (with_reducible assumption) | assumption)
                  obtain ⟨ad26007, e26007, hx26007_0, hx26007_1⟩ := at_T40 HR0.out x4_1 p26007 q26007
                  obtain rfl : ad26001 = ad26007 := (by injection e26007)
                  replace hx26007_0 := (HB.out.cell (World.block_lt_of_cell? w _ hx26007_0)).trans hx26007_0
                  replace hx26007_1 := (HB.out.cell (World.block_lt_of_cell? w _ hx26007_1)).trans hx26007_1
                  replace p26007 := eq_true p26007
                  replace q26007 := eq_true q26007
                  try go_wp2_with (first | ((with_reducible refine gate_callee (f := 20) rfl ?_); refine goesL_ (some 46) rfl rfl Tryd.func20 (by kernel_rfl) rfl #[.string ((rd_T40 l0 x4_1).f0)] rfl (by (try simp only [List.map_toArray, List.map_cons, List.map_nil]); first | done | rfl | (simp only [List.length_drop, List.length_take]; rfl)) ?_; (with_reducible refine (tinderref19_Default.calls k1 ((rd_T40 l0 x4_1).f0) t26008 t26009 _ A7.out).mono ?_); rintro e w' ⟨rfl, ⟨nd, rfl⟩⟩; refine ⟨_, rfl, ?_⟩; have p26010 : 0 ≤ (x4_1 : Int) := of_decide_eq_true (by first | (with_reducible assumption) | assumption); have q26010 : x4_1 < (l0.length : Int) := of_decide_eq_true (by first | (with_reducible assumption) | assumption); obtain ⟨ad26010, e26010, hx26010_0, hx26010_1⟩ := at_T40 HR0.out x4_1 p26010 q26010; obtain rfl : ad26001 = ad26010 := (by injection e26010); replace hx26010_0 := (HB.out.cell (World.block_lt_of_cell? w _ hx26010_0)).trans hx26010_0; replace hx26010_1 := (HB.out.cell (World.block_lt_of_cell? w _ hx26010_1)).trans hx26010_1; replace p26010 := eq_true p26010; replace q26010 := eq_true q26010))
                  go_ret
                  exact ⟨by first | rfl | (simp [errW_none, errW_some] <;> rfl) | (simp [*, errW_none, errW_some] <;> rfl), by repeat (first | (with_reducible first | exact HB.out | apply below_alloc | apply pw_below_drewN | apply below_drew1) | exact HB.out)⟩
                · rw [if_neg c10] at H
                  have c10b0 : (t26005.toList == t26008.toList) = false := beq_eq_false_iff_ne.mpr c10
                  have c10b1 : (t26005.toList != t26008.toList) = true := bne_iff_ne.mpr c10
                  have H' := Aside0.mk H
                  clear H
                  have p26001 : 0 ≤ (x4_1 : Int) := of_decide_eq_true (by first | (with_reducible assumption) | assumption)
                  have q26001 : x4_1 < (l0.length : Int) := of_decide_eq_true (by first | (with_reducible assumption) | assumption)
                  obtain ⟨ad26001, e26001, hx26001_0, hx26001_1⟩ := at_T40 HR0.out x4_1 p26001 q26001
                  cases e26001
                  replace hx26001_0 := (HB.out.cell (World.block_lt_of_cell? w _ hx26001_0)).trans hx26001_0
                  replace hx26001_1 := (HB.out.cell (World.block_lt_of_cell? w _ hx26001_1)).trans hx26001_1
                  replace p26001 := eq_true p26001
                  replace q26001 := eq_true q26001
                  try go_wp2_with (first | ((with_reducible refine gate_callee (f := 46) rfl ?_); refine goesL_ (some 21) rfl rfl Tryd.func46 (by kernel_rfl) rfl #[.string ((rd_T40 l0 x4_1).f0)] rfl (by (try simp only [List.map_toArray, List.map_cons, List.map_nil]); first | done | rfl | (simp only [List.length_drop, List.length_take]; rfl)) ?_; (with_reducible refine (tinderref19_find.calls k1 ((rd_T40 l0 x4_1).f0) t26002 _ A4.out).mono ?_); rintro e w' ⟨rfl, ⟨nd, rfl⟩⟩; refine ⟨_, rfl, ?_⟩))
                  (try (rw [drewN_self wr]; generalize hq_ : World.drewN wr _ = wr; have n0_ : Aside0 (Below w.heap.size w wr) := ⟨by rw [← hq_]; exact (by repeat (first | (with_reducible first | exact HB.out | apply below_alloc | apply pw_below_drewN | apply below_drew1) | exact HB.out))⟩; clear HB hq_; have HB := n0_; clear n0_))
                  have n0_ := Aside0.mk (below_drew1 HB.out)
                  clear HB
                  have HB := n0_
                  clear n0_
                  have p26003 : 0 ≤ (x4_1 : Int) := of_decide_eq_true (by first | (with_reducible assumption) | assumption)
                  have q26003 : x4_1 < (l0.length : Int) := of_decide_eq_true (by first | (with_reducible assumption) | assumption)
                  obtain ⟨ad26003, e26003, hx26003_0, hx26003_1⟩ := at_T40 HR0.out x4_1 p26003 q26003
                  have hw26003_1 := hx26003_1
                  have hw26003_0 := hx26003_0
                  obtain rfl : ad26001 = ad26003 := (by injection e26003)
                  replace hx26003_0 := (HB.out.cell (World.block_lt_of_cell? w _ hx26003_0)).trans hx26003_0
                  replace hx26003_1 := (HB.out.cell (World.block_lt_of_cell? w _ hx26003_1)).trans hx26003_1
                  replace p26003 := eq_true p26003
                  replace q26003 := eq_true q26003
                  have p26004 : 0 ≤ (x4_1 : Int) := of_decide_eq_true (by first | (with_reducible assumption) | assumption)
                  have q26004 : x4_1 < (l0.length : Int) := of_decide_eq_true (by first | (with_reducible assumption) | assumption)
                  obtain ⟨ad26004, e26004, hx26004_0, hx26004_1⟩ := at_T40 HR0.out x4_1 p26004 q26004
                  have hw26004_1 := hx26004_1
                  have hw26004_0 := hx26004_0
                  obtain rfl : ad26001 = ad26004 := (by injection e26004)
                  replace hx26004_0 := (HB.out.cell (World.block_lt_of_cell? w _ hx26004_0)).trans hx26004_0
                  replace hx26004_1 := (HB.out.cell (World.block_lt_of_cell? w _ hx26004_1)).trans hx26004_1
                  replace p26004 := eq_true p26004
                  replace q26004 := eq_true q26004
                  refine start_ (n := 16) (S := fun w' => w'.cell? (ad26001.add ((x4_1).toNat * 2)) = some (.string ((rd_T40 l0 x4_1).f0)) ∧ w'.cell? ⟨(ad26001.add ((x4_1).toNat * 2)).block, (ad26001.add ((x4_1).toNat * 2)).off + 1, none⟩ = some (.string ((rd_T40 l0 x4_1).f1)) ∧ w'.cell? (ad26001.add ((x4_1).toNat * 2)) = some (.string ((rd_T40 l0 x4_1).f0)) ∧ w'.cell? ⟨(ad26001.add ((x4_1).toNat * 2)).block, (ad26001.add ((x4_1).toNat * 2)).off + 1, none⟩ = some (.string ((rd_T40 l0 x4_1).f1))) (ds := []) #[false, false, false, false, false, false, false, false, false, false, false, false, false, false, false, false] (by kernel_rfl) rfl rfl ⟨((HB.out.cell (World.block_lt_of_cell? w _ hw26003_0)).trans hw26003_0), ((HB.out.cell (World.block_lt_of_cell? w _ hw26003_1)).trans hw26003_1), ((HB.out.cell (World.block_lt_of_cell? w _ hw26004_0)).trans hw26004_0), ((HB.out.cell (World.block_lt_of_cell? w _ hw26004_1)).trans hw26004_1)⟩ (fun hHeld => ?_); refine with_tabW tinderref19_Right.tab9 tinderref19_Right.bits9 (fun HT_ HW_ => ?_)
                  generalize wr.drew = w13 at HB hx26003_0 hx26003_1 hx26004_0 hx26004_1 hHeld ⊢
                  refine pure_ (i := 0) (N := some 27) (v := ?_) (a' := ?_) #[true, false, false, false, false, false, false, false, false, false, false, false, false, false, false, false] rfl rfl (any_of HT_.out (by kernel_rfl)) (fun _ _ _ h => h) (Or.inl ⟨by rfl, ?_⟩) ?_ ?_
                  rotate_left
                  · intro w'
                    go_simp
                    with_reducible rfl
                  rotate_left
                  · simp only [Act.put, List.setIfInBounds_toArray, List.set_cons_zero, List.set_cons_succ, i64_w, i32_w]
                    rfl
                  refine pure_ (i := 1) (N := some 28) (v := ?_) (a' := ?_) #[true, true, false, false, false, false, false, false, false, false, false, false, false, false, false, false] rfl rfl (any_of HT_.out (by kernel_rfl)) (fun _ _ _ h => h) (Or.inl ⟨by rfl, ?_⟩) ?_ ?_
                  rotate_left
                  · intro w'
                    go_simp
                    with_reducible rfl
                  rotate_left
                  · simp only [Act.put, List.setIfInBounds_toArray, List.set_cons_zero, List.set_cons_succ, i64_w, i32_w]
                    rfl
                  refine pure_ (i := 2) (N := some 29) (v := ?_) (a' := ?_) #[true, true, true, false, false, false, false, false, false, false, false, false, false, false, false, false] rfl rfl (any_of HT_.out (by kernel_rfl)) (fun _ _ _ h => h) (Or.inl ⟨by rfl, ?_⟩) ?_ ?_
                  rotate_left
                  · intro w'
                    go_simp
                    with_reducible rfl
                  rotate_left
                  · simp only [Act.put, List.setIfInBounds_toArray, List.set_cons_zero, List.set_cons_succ, i64_w, i32_w]
                    rfl
                  refine pure_ (i := 3) (N := some 30) (v := ?_) (a' := ?_) #[true, true, true, true, false, false, false, false, false, false, false, false, false, false, false, false] rfl rfl (any_of HT_.out (by kernel_rfl)) (fun _ _ _ h => h) (Or.inl ⟨by rfl, ?_⟩) ?_ ?_
                  rotate_left
                  · intro w'
                    go_simp
                    with_reducible rfl
                  rotate_left
                  · simp only [Act.put, List.setIfInBounds_toArray, List.set_cons_zero, List.set_cons_succ, i64_w, i32_w]
                    rfl
                  refine pure_ (i := 5) (N := some 32) (v := ?_) (a' := ?_) #[true, true, true, true, false, true, false, false, false, false, false, false, false, false, false, false] rfl rfl (any_of HT_.out (by kernel_rfl)) (fun _ _ _ h => h) (Or.inl ⟨by rfl, ?_⟩) ?_ ?_
                  rotate_left
                  · intro w'
                    go_simp
                    with_reducible rfl
                  rotate_left
                  · simp only [Act.put, List.setIfInBounds_toArray, List.set_cons_zero, List.set_cons_succ, i64_w, i32_w]
                    rfl
                  refine pure_ (i := 6) (N := some 33) (v := ?_) (a' := ?_) #[true, true, true, true, false, true, true, false, false, false, false, false, false, false, false, false] rfl rfl (any_of HT_.out (by kernel_rfl)) (fun _ _ _ h => h) (Or.inl ⟨by rfl, ?_⟩) ?_ ?_
                  rotate_left
                  · intro w'
                    go_simp
                    with_reducible rfl
                  rotate_left
                  · simp only [Act.put, List.setIfInBounds_toArray, List.set_cons_zero, List.set_cons_succ, i64_w, i32_w]
                    rfl
                  refine pure_ (i := 7) (N := some 34) (v := ?_) (a' := ?_) #[true, true, true, true, false, true, true, true, false, false, false, false, false, false, false, false] rfl rfl (any_of HT_.out (by kernel_rfl)) (fun _ _ _ h => h) (Or.inl ⟨by rfl, ?_⟩) ?_ ?_
                  rotate_left
                  · intro w'
                    go_simp
                    with_reducible rfl
                  rotate_left
                  · simp only [Act.put, List.setIfInBounds_toArray, List.set_cons_zero, List.set_cons_succ, i64_w, i32_w]
                    rfl
                  refine pure_ (i := 8) (N := some 35) (v := ?_) (a' := ?_) #[true, true, true, true, false, true, true, true, true, false, false, false, false, false, false, false] rfl rfl (any_of HT_.out (by kernel_rfl)) (fun _ _ _ h => h) (Or.inl ⟨by rfl, ?_⟩) ?_ ?_
                  rotate_left
                  · intro w'
                    go_simp
                    with_reducible rfl
                  rotate_left
                  · simp only [Act.put, List.setIfInBounds_toArray, List.set_cons_zero, List.set_cons_succ, i64_w, i32_w]
                    rfl
                  refine take_ (i := 4) (N := some 31) (v := ?_) (a' := ?_) #[true, true, true, true, true, true, true, true, true, false, false, false, false, false, false, false] rfl rfl (take_ofW HT_.out HW_.out (by kernel_rfl)) (fun _ _ _ h => h) (Or.inl ⟨by rfl, ?_⟩) hHeld ?_ ?_
                  rotate_left
                  · rintro w' ⟨s0, s1, s2, s3⟩
                    go_simp
                    with_reducible rfl
                  rotate_left
                  · simp only [Act.put, List.setIfInBounds_toArray, List.set_cons_zero, List.set_cons_succ, i64_w, i32_w]
                    rfl
                  refine take_ (i := 9) (N := some 36) (v := ?_) (a' := ?_) #[true, true, true, true, true, true, true, true, true, true, false, false, false, false, false, false] rfl rfl (take_ofW HT_.out HW_.out (by kernel_rfl)) (fun _ _ _ h => h) (Or.inl ⟨by rfl, ?_⟩) hHeld ?_ ?_
                  rotate_left
                  · rintro w' ⟨s0, s1, s2, s3⟩
                    go_simp
                    with_reducible rfl
                  rotate_left
                  · simp only [Act.put, List.setIfInBounds_toArray, List.set_cons_zero, List.set_cons_succ, i64_w, i32_w]
                    rfl
                  refine one_ (i := 10) (N := some 37) #[true, true, true, true, true, true, true, true, true, true, true, false, false, false, false, false] rfl rfl (one_of HT_.out (by kernel_rfl)) (by decide) (fun K hK => ?_)
                  refine goes_ Tryd.func18 (by kernel_rfl) rfl #[.string ((rd_T40 l0 x4_1).f0), .string ((rd_T40 l0 x4_1).f1)] (by rfl) rfl rfl (by (try simp only [List.map_toArray, List.map_cons, List.map_nil]); first | done | rfl | (simp only [List.length_drop, List.length_take]; rfl)) ?_
                  with_reducible refine (tinderref19_Form.calls k1 ((rd_T40 l0 x4_1).f0) ((rd_T40 l0 x4_1).f1) t26005 t26006 _ A6.out).mono ?_
                  rintro e w14 ⟨rfl, hb⟩
                  refine ⟨_, rfl, ?_⟩
                  have n0_ := Aside0.mk (below_step (by repeat (first | (with_reducible first | exact HB.out | apply below_alloc | apply pw_below_drewN | apply below_drew1) | exact HB.out)) hb)
                  clear HB
                  have HB := n0_
                  clear n0_
                  (try clear hb)
                  (try clear hb2)
                  (try clear hk)
                  (try clear hi)
                  refine hK.out _ _ ⟨((HB.out.cell (World.block_lt_of_cell? w _ hw26003_0)).trans hw26003_0), ((HB.out.cell (World.block_lt_of_cell? w _ hw26003_1)).trans hw26003_1), ((HB.out.cell (World.block_lt_of_cell? w _ hw26004_0)).trans hw26004_0), ((HB.out.cell (World.block_lt_of_cell? w _ hw26004_1)).trans hw26004_1)⟩ (fun hHeld => ?_)
                  clear hK K
                  refine norm_ (a' := ?_) ?_ ?_
                  rotate_left
                  · show Act.put _ (some 37) _ = _
                    simp only [Act.put, List.setIfInBounds_toArray, List.set_cons_zero, List.set_cons_succ, i64_w, i32_w]
                    rfl
                  refine pure_ (i := 11) (N := some 26) (v := ?_) (a' := ?_) #[true, true, true, true, true, true, true, true, true, true, true, true, false, false, false, false] rfl rfl (any_of HT_.out (by kernel_rfl)) (fun _ _ _ h => h) (Or.inl ⟨by rfl, ?_⟩) ?_ ?_
                  rotate_left
                  · intro w'
                    go_simp
                    with_reducible rfl
                  rotate_left
                  · simp only [Act.put, List.setIfInBounds_toArray, List.set_cons_zero, List.set_cons_succ, i64_w, i32_w]
                    rfl
                  refine pure_ (i := 12) (N := some 38) (v := ?_) (a' := ?_) #[true, true, true, true, true, true, true, true, true, true, true, true, true, false, false, false] rfl rfl (any_of HT_.out (by kernel_rfl)) (fun _ _ _ h => h) (Or.inl ⟨by rfl, ?_⟩) ?_ ?_
                  rotate_left
                  · intro w'
                    go_simp
                    with_reducible rfl
                  rotate_left
                  · simp only [Act.put, List.setIfInBounds_toArray, List.set_cons_zero, List.set_cons_succ, i64_w, i32_w]
                    rfl
                  refine pure_ (i := 13) (N := some 39) (v := ?_) (a' := ?_) #[true, true, true, true, true, true, true, true, true, true, true, true, true, true, false, false] rfl rfl (any_of HT_.out (by kernel_rfl)) (fun _ _ _ h => h) (Or.inl ⟨by rfl, ?_⟩) ?_ ?_
                  rotate_left
                  · intro w'
                    go_simp
                    with_reducible rfl
                  rotate_left
                  · simp only [Act.put, List.setIfInBounds_toArray, List.set_cons_zero, List.set_cons_succ, i64_w, i32_w]
                    rfl
                  refine pure_ (i := 14) (N := some 6) (v := ?_) (a' := ?_) #[true, true, true, true, true, true, true, true, true, true, true, true, true, true, true, false] rfl rfl (any_of HT_.out (by kernel_rfl)) (fun _ _ _ h => h) (Or.inl ⟨by rfl, ?_⟩) ?_ ?_
                  rotate_left
                  · intro w'
                    go_simp
                    with_reducible rfl
                  rotate_left
                  · simp only [Act.put, List.setIfInBounds_toArray, List.set_cons_zero, List.set_cons_succ, i64_w, i32_w]
                    rfl
                  refine pure_ (i := 15) (N := some 7) (v := ?_) (a' := ?_) #[true, true, true, true, true, true, true, true, true, true, true, true, true, true, true, true] rfl rfl (any_of HT_.out (by kernel_rfl)) (fun _ _ _ h => h) (Or.inl ⟨by rfl, ?_⟩) ?_ ?_
                  rotate_left
                  · intro w'
                    go_simp
                    with_reducible rfl
                  rotate_left
                  · simp only [Act.put, List.setIfInBounds_toArray, List.set_cons_zero, List.set_cons_succ, i64_w, i32_w]
                    rfl
                  refine done_ (done_of HT_.out (by kernel_rfl)) ?_
                  have p26007 : 0 ≤ (x4_1 : Int) := of_decide_eq_true (by first | (with_reducible assumption) | assumption)
                  have q26007 : x4_1 < (l0.length : Int) := of_decide_eq_true (by first | (with_reducible assumption) | assumption)
                  obtain ⟨ad26007, e26007, hx26007_0, hx26007_1⟩ := at_T40 HR0.out x4_1 p26007 q26007
                  obtain rfl : ad26001 = ad26007 := (by injection e26007)
                  replace hx26007_0 := (HB.out.cell (World.block_lt_of_cell? w _ hx26007_0)).trans hx26007_0
                  replace hx26007_1 := (HB.out.cell (World.block_lt_of_cell? w _ hx26007_1)).trans hx26007_1
                  replace p26007 := eq_true p26007
                  replace q26007 := eq_true q26007
                  try go_wp2_with (first | ((with_reducible refine gate_callee (f := 20) rfl ?_); refine goesL_ (some 46) rfl rfl Tryd.func20 (by kernel_rfl) rfl #[.string ((rd_T40 l0 x4_1).f0)] rfl (by (try simp only [List.map_toArray, List.map_cons, List.map_nil]); first | done | rfl | (simp only [List.length_drop, List.length_take]; rfl)) ?_; (with_reducible refine (tinderref19_Default.calls k1 ((rd_T40 l0 x4_1).f0) t26008 t26009 _ A7.out).mono ?_); rintro e w' ⟨rfl, ⟨nd, rfl⟩⟩; refine ⟨_, rfl, ?_⟩; have p26010 : 0 ≤ (x4_1 : Int) := of_decide_eq_true (by first | (with_reducible assumption) | assumption); have q26010 : x4_1 < (l0.length : Int) := of_decide_eq_true (by first | (with_reducible assumption) | assumption); obtain ⟨ad26010, e26010, hx26010_0, hx26010_1⟩ := at_T40 HR0.out x4_1 p26010 q26010; obtain rfl : ad26001 = ad26010 := (by injection e26010); replace hx26010_0 := (HB.out.cell (World.block_lt_of_cell? w _ hx26010_0)).trans hx26010_0; replace hx26010_1 := (HB.out.cell (World.block_lt_of_cell? w _ hx26010_1)).trans hx26010_1; replace p26010 := eq_true p26010; replace q26010 := eq_true q26010))
                  go_roundg k1
                  case measure => have := HK1.out; omega
                  case rel => exact ⟨(t26002), (wrap64 (x4_1 + 1)), (by first | rfl | (simp; done) | (simp [*]; done)), (by first | rfl | (simp; done) | (simp [*]; done)), H', ⟨by have := HK1.out; omega⟩, ⟨by repeat (first | (with_reducible first | exact HB.out | apply below_alloc | apply pw_below_drewN | apply below_drew1) | exact HB.out)⟩⟩
              · rw [if_neg c9] at H
                have c9b0 : (t26005.toList == ((rd_T40 l0 x4_1).f1).toList) = false := beq_eq_false_iff_ne.mpr c9
                have c9b1 : (t26005.toList != ((rd_T40 l0 x4_1).f1).toList) = true := bne_iff_ne.mpr c9
                obtain rfl := Option.some.inj H
                have p26001 : 0 ≤ (x4_1 : Int) := of_decide_eq_true (by first | (with_reducible assumption) | assumption)
                have q26001 : x4_1 < (l0.length : Int) := of_decide_eq_true (by first | (with_reducible assumption) | assumption)
                obtain ⟨ad26001, e26001, hx26001_0, hx26001_1⟩ := at_T40 HR0.out x4_1 p26001 q26001
                cases e26001
                replace hx26001_0 := (HB.out.cell (World.block_lt_of_cell? w _ hx26001_0)).trans hx26001_0
                replace hx26001_1 := (HB.out.cell (World.block_lt_of_cell? w _ hx26001_1)).trans hx26001_1
                replace p26001 := eq_true p26001
                replace q26001 := eq_true q26001
                try go_wp2_with (first | ((with_reducible refine gate_callee (f := 46) rfl ?_); refine goesL_ (some 21) rfl rfl Tryd.func46 (by kernel_rfl) rfl #[.string ((rd_T40 l0 x4_1).f0)] rfl (by (try simp only [List.map_toArray, List.map_cons, List.map_nil]); first | done | rfl | (simp only [List.length_drop, List.length_take]; rfl)) ?_; (with_reducible refine (tinderref19_find.calls k1 ((rd_T40 l0 x4_1).f0) t26002 _ A4.out).mono ?_); rintro e w' ⟨rfl, ⟨nd, rfl⟩⟩; refine ⟨_, rfl, ?_⟩))
                (try (rw [drewN_self wr]; generalize hq_ : World.drewN wr _ = wr; have n0_ : Aside0 (Below w.heap.size w wr) := ⟨by rw [← hq_]; exact (by repeat (first | (with_reducible first | exact HB.out | apply below_alloc | apply pw_below_drewN | apply below_drew1) | exact HB.out))⟩; clear HB hq_; have HB := n0_; clear n0_))
                have n0_ := Aside0.mk (below_drew1 HB.out)
                clear HB
                have HB := n0_
                clear n0_
                have p26003 : 0 ≤ (x4_1 : Int) := of_decide_eq_true (by first | (with_reducible assumption) | assumption)
                have q26003 : x4_1 < (l0.length : Int) := of_decide_eq_true (by first | (with_reducible assumption) | assumption)
                obtain ⟨ad26003, e26003, hx26003_0, hx26003_1⟩ := at_T40 HR0.out x4_1 p26003 q26003
                have hw26003_1 := hx26003_1
                have hw26003_0 := hx26003_0
                obtain rfl : ad26001 = ad26003 := (by injection e26003)
                replace hx26003_0 := (HB.out.cell (World.block_lt_of_cell? w _ hx26003_0)).trans hx26003_0
                replace hx26003_1 := (HB.out.cell (World.block_lt_of_cell? w _ hx26003_1)).trans hx26003_1
                replace p26003 := eq_true p26003
                replace q26003 := eq_true q26003
                have p26004 : 0 ≤ (x4_1 : Int) := of_decide_eq_true (by first | (with_reducible assumption) | assumption)
                have q26004 : x4_1 < (l0.length : Int) := of_decide_eq_true (by first | (with_reducible assumption) | assumption)
                obtain ⟨ad26004, e26004, hx26004_0, hx26004_1⟩ := at_T40 HR0.out x4_1 p26004 q26004
                have hw26004_1 := hx26004_1
                have hw26004_0 := hx26004_0
                obtain rfl : ad26001 = ad26004 := (by injection e26004)
                replace hx26004_0 := (HB.out.cell (World.block_lt_of_cell? w _ hx26004_0)).trans hx26004_0
                replace hx26004_1 := (HB.out.cell (World.block_lt_of_cell? w _ hx26004_1)).trans hx26004_1
                replace p26004 := eq_true p26004
                replace q26004 := eq_true q26004
                refine start_ (n := 16) (S := fun w' => w'.cell? (ad26001.add ((x4_1).toNat * 2)) = some (.string ((rd_T40 l0 x4_1).f0)) ∧ w'.cell? ⟨(ad26001.add ((x4_1).toNat * 2)).block, (ad26001.add ((x4_1).toNat * 2)).off + 1, none⟩ = some (.string ((rd_T40 l0 x4_1).f1)) ∧ w'.cell? (ad26001.add ((x4_1).toNat * 2)) = some (.string ((rd_T40 l0 x4_1).f0)) ∧ w'.cell? ⟨(ad26001.add ((x4_1).toNat * 2)).block, (ad26001.add ((x4_1).toNat * 2)).off + 1, none⟩ = some (.string ((rd_T40 l0 x4_1).f1))) (ds := []) #[false, false, false, false, false, false, false, false, false, false, false, false, false, false, false, false] (by kernel_rfl) rfl rfl ⟨((HB.out.cell (World.block_lt_of_cell? w _ hw26003_0)).trans hw26003_0), ((HB.out.cell (World.block_lt_of_cell? w _ hw26003_1)).trans hw26003_1), ((HB.out.cell (World.block_lt_of_cell? w _ hw26004_0)).trans hw26004_0), ((HB.out.cell (World.block_lt_of_cell? w _ hw26004_1)).trans hw26004_1)⟩ (fun hHeld => ?_); refine with_tabW tinderref19_Right.tab9 tinderref19_Right.bits9 (fun HT_ HW_ => ?_)
                generalize wr.drew = w15 at HB hx26003_0 hx26003_1 hx26004_0 hx26004_1 hHeld ⊢
                refine pure_ (i := 0) (N := some 27) (v := ?_) (a' := ?_) #[true, false, false, false, false, false, false, false, false, false, false, false, false, false, false, false] rfl rfl (any_of HT_.out (by kernel_rfl)) (fun _ _ _ h => h) (Or.inl ⟨by rfl, ?_⟩) ?_ ?_
                rotate_left
                · intro w'
                  go_simp
                  with_reducible rfl
                rotate_left
                · simp only [Act.put, List.setIfInBounds_toArray, List.set_cons_zero, List.set_cons_succ, i64_w, i32_w]
                  rfl
                refine pure_ (i := 1) (N := some 28) (v := ?_) (a' := ?_) #[true, true, false, false, false, false, false, false, false, false, false, false, false, false, false, false] rfl rfl (any_of HT_.out (by kernel_rfl)) (fun _ _ _ h => h) (Or.inl ⟨by rfl, ?_⟩) ?_ ?_
                rotate_left
                · intro w'
                  go_simp
                  with_reducible rfl
                rotate_left
                · simp only [Act.put, List.setIfInBounds_toArray, List.set_cons_zero, List.set_cons_succ, i64_w, i32_w]
                  rfl
                refine pure_ (i := 2) (N := some 29) (v := ?_) (a' := ?_) #[true, true, true, false, false, false, false, false, false, false, false, false, false, false, false, false] rfl rfl (any_of HT_.out (by kernel_rfl)) (fun _ _ _ h => h) (Or.inl ⟨by rfl, ?_⟩) ?_ ?_
                rotate_left
                · intro w'
                  go_simp
                  with_reducible rfl
                rotate_left
                · simp only [Act.put, List.setIfInBounds_toArray, List.set_cons_zero, List.set_cons_succ, i64_w, i32_w]
                  rfl
                refine pure_ (i := 3) (N := some 30) (v := ?_) (a' := ?_) #[true, true, true, true, false, false, false, false, false, false, false, false, false, false, false, false] rfl rfl (any_of HT_.out (by kernel_rfl)) (fun _ _ _ h => h) (Or.inl ⟨by rfl, ?_⟩) ?_ ?_
                rotate_left
                · intro w'
                  go_simp
                  with_reducible rfl
                rotate_left
                · simp only [Act.put, List.setIfInBounds_toArray, List.set_cons_zero, List.set_cons_succ, i64_w, i32_w]
                  rfl
                refine pure_ (i := 5) (N := some 32) (v := ?_) (a' := ?_) #[true, true, true, true, false, true, false, false, false, false, false, false, false, false, false, false] rfl rfl (any_of HT_.out (by kernel_rfl)) (fun _ _ _ h => h) (Or.inl ⟨by rfl, ?_⟩) ?_ ?_
                rotate_left
                · intro w'
                  go_simp
                  with_reducible rfl
                rotate_left
                · simp only [Act.put, List.setIfInBounds_toArray, List.set_cons_zero, List.set_cons_succ, i64_w, i32_w]
                  rfl
                refine pure_ (i := 6) (N := some 33) (v := ?_) (a' := ?_) #[true, true, true, true, false, true, true, false, false, false, false, false, false, false, false, false] rfl rfl (any_of HT_.out (by kernel_rfl)) (fun _ _ _ h => h) (Or.inl ⟨by rfl, ?_⟩) ?_ ?_
                rotate_left
                · intro w'
                  go_simp
                  with_reducible rfl
                rotate_left
                · simp only [Act.put, List.setIfInBounds_toArray, List.set_cons_zero, List.set_cons_succ, i64_w, i32_w]
                  rfl
                refine pure_ (i := 7) (N := some 34) (v := ?_) (a' := ?_) #[true, true, true, true, false, true, true, true, false, false, false, false, false, false, false, false] rfl rfl (any_of HT_.out (by kernel_rfl)) (fun _ _ _ h => h) (Or.inl ⟨by rfl, ?_⟩) ?_ ?_
                rotate_left
                · intro w'
                  go_simp
                  with_reducible rfl
                rotate_left
                · simp only [Act.put, List.setIfInBounds_toArray, List.set_cons_zero, List.set_cons_succ, i64_w, i32_w]
                  rfl
                refine pure_ (i := 8) (N := some 35) (v := ?_) (a' := ?_) #[true, true, true, true, false, true, true, true, true, false, false, false, false, false, false, false] rfl rfl (any_of HT_.out (by kernel_rfl)) (fun _ _ _ h => h) (Or.inl ⟨by rfl, ?_⟩) ?_ ?_
                rotate_left
                · intro w'
                  go_simp
                  with_reducible rfl
                rotate_left
                · simp only [Act.put, List.setIfInBounds_toArray, List.set_cons_zero, List.set_cons_succ, i64_w, i32_w]
                  rfl
                refine take_ (i := 4) (N := some 31) (v := ?_) (a' := ?_) #[true, true, true, true, true, true, true, true, true, false, false, false, false, false, false, false] rfl rfl (take_ofW HT_.out HW_.out (by kernel_rfl)) (fun _ _ _ h => h) (Or.inl ⟨by rfl, ?_⟩) hHeld ?_ ?_
                rotate_left
                · rintro w' ⟨s0, s1, s2, s3⟩
                  go_simp
                  with_reducible rfl
                rotate_left
                · simp only [Act.put, List.setIfInBounds_toArray, List.set_cons_zero, List.set_cons_succ, i64_w, i32_w]
                  rfl
                refine take_ (i := 9) (N := some 36) (v := ?_) (a' := ?_) #[true, true, true, true, true, true, true, true, true, true, false, false, false, false, false, false] rfl rfl (take_ofW HT_.out HW_.out (by kernel_rfl)) (fun _ _ _ h => h) (Or.inl ⟨by rfl, ?_⟩) hHeld ?_ ?_
                rotate_left
                · rintro w' ⟨s0, s1, s2, s3⟩
                  go_simp
                  with_reducible rfl
                rotate_left
                · simp only [Act.put, List.setIfInBounds_toArray, List.set_cons_zero, List.set_cons_succ, i64_w, i32_w]
                  rfl
                refine one_ (i := 10) (N := some 37) #[true, true, true, true, true, true, true, true, true, true, true, false, false, false, false, false] rfl rfl (one_of HT_.out (by kernel_rfl)) (by decide) (fun K hK => ?_)
                refine goes_ Tryd.func18 (by kernel_rfl) rfl #[.string ((rd_T40 l0 x4_1).f0), .string ((rd_T40 l0 x4_1).f1)] (by rfl) rfl rfl (by (try simp only [List.map_toArray, List.map_cons, List.map_nil]); first | done | rfl | (simp only [List.length_drop, List.length_take]; rfl)) ?_
                with_reducible refine (tinderref19_Form.calls k1 ((rd_T40 l0 x4_1).f0) ((rd_T40 l0 x4_1).f1) t26005 t26006 _ A6.out).mono ?_
                rintro e w16 ⟨rfl, hb⟩
                refine ⟨_, rfl, ?_⟩
                have n0_ := Aside0.mk (below_step (by repeat (first | (with_reducible first | exact HB.out | apply below_alloc | apply pw_below_drewN | apply below_drew1) | exact HB.out)) hb)
                clear HB
                have HB := n0_
                clear n0_
                (try clear hb)
                (try clear hb2)
                (try clear hk)
                (try clear hi)
                refine hK.out _ _ ⟨((HB.out.cell (World.block_lt_of_cell? w _ hw26003_0)).trans hw26003_0), ((HB.out.cell (World.block_lt_of_cell? w _ hw26003_1)).trans hw26003_1), ((HB.out.cell (World.block_lt_of_cell? w _ hw26004_0)).trans hw26004_0), ((HB.out.cell (World.block_lt_of_cell? w _ hw26004_1)).trans hw26004_1)⟩ (fun hHeld => ?_)
                clear hK K
                refine norm_ (a' := ?_) ?_ ?_
                rotate_left
                · show Act.put _ (some 37) _ = _
                  simp only [Act.put, List.setIfInBounds_toArray, List.set_cons_zero, List.set_cons_succ, i64_w, i32_w]
                  rfl
                refine pure_ (i := 11) (N := some 26) (v := ?_) (a' := ?_) #[true, true, true, true, true, true, true, true, true, true, true, true, false, false, false, false] rfl rfl (any_of HT_.out (by kernel_rfl)) (fun _ _ _ h => h) (Or.inl ⟨by rfl, ?_⟩) ?_ ?_
                rotate_left
                · intro w'
                  go_simp
                  with_reducible rfl
                rotate_left
                · simp only [Act.put, List.setIfInBounds_toArray, List.set_cons_zero, List.set_cons_succ, i64_w, i32_w]
                  rfl
                refine pure_ (i := 12) (N := some 38) (v := ?_) (a' := ?_) #[true, true, true, true, true, true, true, true, true, true, true, true, true, false, false, false] rfl rfl (any_of HT_.out (by kernel_rfl)) (fun _ _ _ h => h) (Or.inl ⟨by rfl, ?_⟩) ?_ ?_
                rotate_left
                · intro w'
                  go_simp
                  with_reducible rfl
                rotate_left
                · simp only [Act.put, List.setIfInBounds_toArray, List.set_cons_zero, List.set_cons_succ, i64_w, i32_w]
                  rfl
                refine pure_ (i := 13) (N := some 39) (v := ?_) (a' := ?_) #[true, true, true, true, true, true, true, true, true, true, true, true, true, true, false, false] rfl rfl (any_of HT_.out (by kernel_rfl)) (fun _ _ _ h => h) (Or.inl ⟨by rfl, ?_⟩) ?_ ?_
                rotate_left
                · intro w'
                  go_simp
                  with_reducible rfl
                rotate_left
                · simp only [Act.put, List.setIfInBounds_toArray, List.set_cons_zero, List.set_cons_succ, i64_w, i32_w]
                  rfl
                refine pure_ (i := 14) (N := some 6) (v := ?_) (a' := ?_) #[true, true, true, true, true, true, true, true, true, true, true, true, true, true, true, false] rfl rfl (any_of HT_.out (by kernel_rfl)) (fun _ _ _ h => h) (Or.inl ⟨by rfl, ?_⟩) ?_ ?_
                rotate_left
                · intro w'
                  go_simp
                  with_reducible rfl
                rotate_left
                · simp only [Act.put, List.setIfInBounds_toArray, List.set_cons_zero, List.set_cons_succ, i64_w, i32_w]
                  rfl
                refine pure_ (i := 15) (N := some 7) (v := ?_) (a' := ?_) #[true, true, true, true, true, true, true, true, true, true, true, true, true, true, true, true] rfl rfl (any_of HT_.out (by kernel_rfl)) (fun _ _ _ h => h) (Or.inl ⟨by rfl, ?_⟩) ?_ ?_
                rotate_left
                · intro w'
                  go_simp
                  with_reducible rfl
                rotate_left
                · simp only [Act.put, List.setIfInBounds_toArray, List.set_cons_zero, List.set_cons_succ, i64_w, i32_w]
                  rfl
                refine done_ (done_of HT_.out (by kernel_rfl)) ?_
                have p26007 : 0 ≤ (x4_1 : Int) := of_decide_eq_true (by first | (with_reducible assumption) | assumption)
                have q26007 : x4_1 < (l0.length : Int) := of_decide_eq_true (by first | (with_reducible assumption) | assumption)
                obtain ⟨ad26007, e26007, hx26007_0, hx26007_1⟩ := at_T40 HR0.out x4_1 p26007 q26007
                obtain rfl : ad26001 = ad26007 := (by injection e26007)
                replace hx26007_0 := (HB.out.cell (World.block_lt_of_cell? w _ hx26007_0)).trans hx26007_0
                replace hx26007_1 := (HB.out.cell (World.block_lt_of_cell? w _ hx26007_1)).trans hx26007_1
                replace p26007 := eq_true p26007
                replace q26007 := eq_true q26007
                try go_wp2_with (first | ((with_reducible refine gate_callee (f := 20) rfl ?_); refine goesL_ (some 46) rfl rfl Tryd.func20 (by kernel_rfl) rfl #[.string ((rd_T40 l0 x4_1).f0)] rfl (by (try simp only [List.map_toArray, List.map_cons, List.map_nil]); first | done | rfl | (simp only [List.length_drop, List.length_take]; rfl)) ?_; (with_reducible refine (tinderref19_Default.calls k1 ((rd_T40 l0 x4_1).f0) t26008 t26009 _ A7.out).mono ?_); rintro e w' ⟨rfl, ⟨nd, rfl⟩⟩; refine ⟨_, rfl, ?_⟩; have p26010 : 0 ≤ (x4_1 : Int) := of_decide_eq_true (by first | (with_reducible assumption) | assumption); have q26010 : x4_1 < (l0.length : Int) := of_decide_eq_true (by first | (with_reducible assumption) | assumption); obtain ⟨ad26010, e26010, hx26010_0, hx26010_1⟩ := at_T40 HR0.out x4_1 p26010 q26010; obtain rfl : ad26001 = ad26010 := (by injection e26010); replace hx26010_0 := (HB.out.cell (World.block_lt_of_cell? w _ hx26010_0)).trans hx26010_0; replace hx26010_1 := (HB.out.cell (World.block_lt_of_cell? w _ hx26010_1)).trans hx26010_1; replace p26010 := eq_true p26010; replace q26010 := eq_true q26010))
                go_ret
                exact ⟨by first | rfl | (simp [errW_none, errW_some] <;> rfl) | (simp [*, errW_none, errW_some] <;> rfl), by repeat (first | (with_reducible first | exact HB.out | apply below_alloc | apply pw_below_drewN | apply below_drew1) | exact HB.out)⟩
            · rw [if_neg c8] at H
              have c8b0 : (t26006 == 0) = false := beq_eq_false_iff_ne.mpr c8
              have c8b1 : (t26006 != 0) = true := bne_iff_ne.mpr c8
              obtain rfl := Option.some.inj H
              have p26001 : 0 ≤ (x4_1 : Int) := of_decide_eq_true (by first | (with_reducible assumption) | assumption)
              have q26001 : x4_1 < (l0.length : Int) := of_decide_eq_true (by first | (with_reducible assumption) | assumption)
              obtain ⟨ad26001, e26001, hx26001_0, hx26001_1⟩ := at_T40 HR0.out x4_1 p26001 q26001
              cases e26001
              replace hx26001_0 := (HB.out.cell (World.block_lt_of_cell? w _ hx26001_0)).trans hx26001_0
              replace hx26001_1 := (HB.out.cell (World.block_lt_of_cell? w _ hx26001_1)).trans hx26001_1
              replace p26001 := eq_true p26001
              replace q26001 := eq_true q26001
              try go_wp2_with (first | ((with_reducible refine gate_callee (f := 46) rfl ?_); refine goesL_ (some 21) rfl rfl Tryd.func46 (by kernel_rfl) rfl #[.string ((rd_T40 l0 x4_1).f0)] rfl (by (try simp only [List.map_toArray, List.map_cons, List.map_nil]); first | done | rfl | (simp only [List.length_drop, List.length_take]; rfl)) ?_; (with_reducible refine (tinderref19_find.calls k1 ((rd_T40 l0 x4_1).f0) t26002 _ A4.out).mono ?_); rintro e w' ⟨rfl, ⟨nd, rfl⟩⟩; refine ⟨_, rfl, ?_⟩))
              (try (rw [drewN_self wr]; generalize hq_ : World.drewN wr _ = wr; have n0_ : Aside0 (Below w.heap.size w wr) := ⟨by rw [← hq_]; exact (by repeat (first | (with_reducible first | exact HB.out | apply below_alloc | apply pw_below_drewN | apply below_drew1) | exact HB.out))⟩; clear HB hq_; have HB := n0_; clear n0_))
              have n0_ := Aside0.mk (below_drew1 HB.out)
              clear HB
              have HB := n0_
              clear n0_
              have p26003 : 0 ≤ (x4_1 : Int) := of_decide_eq_true (by first | (with_reducible assumption) | assumption)
              have q26003 : x4_1 < (l0.length : Int) := of_decide_eq_true (by first | (with_reducible assumption) | assumption)
              obtain ⟨ad26003, e26003, hx26003_0, hx26003_1⟩ := at_T40 HR0.out x4_1 p26003 q26003
              have hw26003_1 := hx26003_1
              have hw26003_0 := hx26003_0
              obtain rfl : ad26001 = ad26003 := (by injection e26003)
              replace hx26003_0 := (HB.out.cell (World.block_lt_of_cell? w _ hx26003_0)).trans hx26003_0
              replace hx26003_1 := (HB.out.cell (World.block_lt_of_cell? w _ hx26003_1)).trans hx26003_1
              replace p26003 := eq_true p26003
              replace q26003 := eq_true q26003
              have p26004 : 0 ≤ (x4_1 : Int) := of_decide_eq_true (by first | (with_reducible assumption) | assumption)
              have q26004 : x4_1 < (l0.length : Int) := of_decide_eq_true (by first | (with_reducible assumption) | assumption)
              obtain ⟨ad26004, e26004, hx26004_0, hx26004_1⟩ := at_T40 HR0.out x4_1 p26004 q26004
              have hw26004_1 := hx26004_1
              have hw26004_0 := hx26004_0
              obtain rfl : ad26001 = ad26004 := (by injection e26004)
              replace hx26004_0 := (HB.out.cell (World.block_lt_of_cell? w _ hx26004_0)).trans hx26004_0
              replace hx26004_1 := (HB.out.cell (World.block_lt_of_cell? w _ hx26004_1)).trans hx26004_1
              replace p26004 := eq_true p26004
              replace q26004 := eq_true q26004
              refine start_ (n := 16) (S := fun w' => w'.cell? (ad26001.add ((x4_1).toNat * 2)) = some (.string ((rd_T40 l0 x4_1).f0)) ∧ w'.cell? ⟨(ad26001.add ((x4_1).toNat * 2)).block, (ad26001.add ((x4_1).toNat * 2)).off + 1, none⟩ = some (.string ((rd_T40 l0 x4_1).f1)) ∧ w'.cell? (ad26001.add ((x4_1).toNat * 2)) = some (.string ((rd_T40 l0 x4_1).f0)) ∧ w'.cell? ⟨(ad26001.add ((x4_1).toNat * 2)).block, (ad26001.add ((x4_1).toNat * 2)).off + 1, none⟩ = some (.string ((rd_T40 l0 x4_1).f1))) (ds := []) #[false, false, false, false, false, false, false, false, false, false, false, false, false, false, false, false] (by kernel_rfl) rfl rfl ⟨((HB.out.cell (World.block_lt_of_cell? w _ hw26003_0)).trans hw26003_0), ((HB.out.cell (World.block_lt_of_cell? w _ hw26003_1)).trans hw26003_1), ((HB.out.cell (World.block_lt_of_cell? w _ hw26004_0)).trans hw26004_0), ((HB.out.cell (World.block_lt_of_cell? w _ hw26004_1)).trans hw26004_1)⟩ (fun hHeld => ?_); refine with_tabW tinderref19_Right.tab9 tinderref19_Right.bits9 (fun HT_ HW_ => ?_)
              generalize wr.drew = w17 at HB hx26003_0 hx26003_1 hx26004_0 hx26004_1 hHeld ⊢
              refine pure_ (i := 0) (N := some 27) (v := ?_) (a' := ?_) #[true, false, false, false, false, false, false, false, false, false, false, false, false, false, false, false] rfl rfl (any_of HT_.out (by kernel_rfl)) (fun _ _ _ h => h) (Or.inl ⟨by rfl, ?_⟩) ?_ ?_
              rotate_left
              · intro w'
                go_simp
                with_reducible rfl
              rotate_left
              · simp only [Act.put, List.setIfInBounds_toArray, List.set_cons_zero, List.set_cons_succ, i64_w, i32_w]
                rfl
              refine pure_ (i := 1) (N := some 28) (v := ?_) (a' := ?_) #[true, true, false, false, false, false, false, false, false, false, false, false, false, false, false, false] rfl rfl (any_of HT_.out (by kernel_rfl)) (fun _ _ _ h => h) (Or.inl ⟨by rfl, ?_⟩) ?_ ?_
              rotate_left
              · intro w'
                go_simp
                with_reducible rfl
              rotate_left
              · simp only [Act.put, List.setIfInBounds_toArray, List.set_cons_zero, List.set_cons_succ, i64_w, i32_w]
                rfl
              refine pure_ (i := 2) (N := some 29) (v := ?_) (a' := ?_) #[true, true, true, false, false, false, false, false, false, false, false, false, false, false, false, false] rfl rfl (any_of HT_.out (by kernel_rfl)) (fun _ _ _ h => h) (Or.inl ⟨by rfl, ?_⟩) ?_ ?_
              rotate_left
              · intro w'
                go_simp
                with_reducible rfl
              rotate_left
              · simp only [Act.put, List.setIfInBounds_toArray, List.set_cons_zero, List.set_cons_succ, i64_w, i32_w]
                rfl
              refine pure_ (i := 3) (N := some 30) (v := ?_) (a' := ?_) #[true, true, true, true, false, false, false, false, false, false, false, false, false, false, false, false] rfl rfl (any_of HT_.out (by kernel_rfl)) (fun _ _ _ h => h) (Or.inl ⟨by rfl, ?_⟩) ?_ ?_
              rotate_left
              · intro w'
                go_simp
                with_reducible rfl
              rotate_left
              · simp only [Act.put, List.setIfInBounds_toArray, List.set_cons_zero, List.set_cons_succ, i64_w, i32_w]
                rfl
              refine pure_ (i := 5) (N := some 32) (v := ?_) (a' := ?_) #[true, true, true, true, false, true, false, false, false, false, false, false, false, false, false, false] rfl rfl (any_of HT_.out (by kernel_rfl)) (fun _ _ _ h => h) (Or.inl ⟨by rfl, ?_⟩) ?_ ?_
              rotate_left
              · intro w'
                go_simp
                with_reducible rfl
              rotate_left
              · simp only [Act.put, List.setIfInBounds_toArray, List.set_cons_zero, List.set_cons_succ, i64_w, i32_w]
                rfl
              refine pure_ (i := 6) (N := some 33) (v := ?_) (a' := ?_) #[true, true, true, true, false, true, true, false, false, false, false, false, false, false, false, false] rfl rfl (any_of HT_.out (by kernel_rfl)) (fun _ _ _ h => h) (Or.inl ⟨by rfl, ?_⟩) ?_ ?_
              rotate_left
              · intro w'
                go_simp
                with_reducible rfl
              rotate_left
              · simp only [Act.put, List.setIfInBounds_toArray, List.set_cons_zero, List.set_cons_succ, i64_w, i32_w]
                rfl
              refine pure_ (i := 7) (N := some 34) (v := ?_) (a' := ?_) #[true, true, true, true, false, true, true, true, false, false, false, false, false, false, false, false] rfl rfl (any_of HT_.out (by kernel_rfl)) (fun _ _ _ h => h) (Or.inl ⟨by rfl, ?_⟩) ?_ ?_
              rotate_left
              · intro w'
                go_simp
                with_reducible rfl
              rotate_left
              · simp only [Act.put, List.setIfInBounds_toArray, List.set_cons_zero, List.set_cons_succ, i64_w, i32_w]
                rfl
              refine pure_ (i := 8) (N := some 35) (v := ?_) (a' := ?_) #[true, true, true, true, false, true, true, true, true, false, false, false, false, false, false, false] rfl rfl (any_of HT_.out (by kernel_rfl)) (fun _ _ _ h => h) (Or.inl ⟨by rfl, ?_⟩) ?_ ?_
              rotate_left
              · intro w'
                go_simp
                with_reducible rfl
              rotate_left
              · simp only [Act.put, List.setIfInBounds_toArray, List.set_cons_zero, List.set_cons_succ, i64_w, i32_w]
                rfl
              refine take_ (i := 4) (N := some 31) (v := ?_) (a' := ?_) #[true, true, true, true, true, true, true, true, true, false, false, false, false, false, false, false] rfl rfl (take_ofW HT_.out HW_.out (by kernel_rfl)) (fun _ _ _ h => h) (Or.inl ⟨by rfl, ?_⟩) hHeld ?_ ?_
              rotate_left
              · rintro w' ⟨s0, s1, s2, s3⟩
                go_simp
                with_reducible rfl
              rotate_left
              · simp only [Act.put, List.setIfInBounds_toArray, List.set_cons_zero, List.set_cons_succ, i64_w, i32_w]
                rfl
              refine take_ (i := 9) (N := some 36) (v := ?_) (a' := ?_) #[true, true, true, true, true, true, true, true, true, true, false, false, false, false, false, false] rfl rfl (take_ofW HT_.out HW_.out (by kernel_rfl)) (fun _ _ _ h => h) (Or.inl ⟨by rfl, ?_⟩) hHeld ?_ ?_
              rotate_left
              · rintro w' ⟨s0, s1, s2, s3⟩
                go_simp
                with_reducible rfl
              rotate_left
              · simp only [Act.put, List.setIfInBounds_toArray, List.set_cons_zero, List.set_cons_succ, i64_w, i32_w]
                rfl
              refine one_ (i := 10) (N := some 37) #[true, true, true, true, true, true, true, true, true, true, true, false, false, false, false, false] rfl rfl (one_of HT_.out (by kernel_rfl)) (by decide) (fun K hK => ?_)
              refine goes_ Tryd.func18 (by kernel_rfl) rfl #[.string ((rd_T40 l0 x4_1).f0), .string ((rd_T40 l0 x4_1).f1)] (by rfl) rfl rfl (by (try simp only [List.map_toArray, List.map_cons, List.map_nil]); first | done | rfl | (simp only [List.length_drop, List.length_take]; rfl)) ?_
              with_reducible refine (tinderref19_Form.calls k1 ((rd_T40 l0 x4_1).f0) ((rd_T40 l0 x4_1).f1) t26005 t26006 _ A6.out).mono ?_
              rintro e w18 ⟨rfl, hb⟩
              refine ⟨_, rfl, ?_⟩
              have n0_ := Aside0.mk (below_step (by repeat (first | (with_reducible first | exact HB.out | apply below_alloc | apply pw_below_drewN | apply below_drew1) | exact HB.out)) hb)
              clear HB
              have HB := n0_
              clear n0_
              (try clear hb)
              (try clear hb2)
              (try clear hk)
              (try clear hi)
              refine hK.out _ _ ⟨((HB.out.cell (World.block_lt_of_cell? w _ hw26003_0)).trans hw26003_0), ((HB.out.cell (World.block_lt_of_cell? w _ hw26003_1)).trans hw26003_1), ((HB.out.cell (World.block_lt_of_cell? w _ hw26004_0)).trans hw26004_0), ((HB.out.cell (World.block_lt_of_cell? w _ hw26004_1)).trans hw26004_1)⟩ (fun hHeld => ?_)
              clear hK K
              refine norm_ (a' := ?_) ?_ ?_
              rotate_left
              · show Act.put _ (some 37) _ = _
                simp only [Act.put, List.setIfInBounds_toArray, List.set_cons_zero, List.set_cons_succ, i64_w, i32_w]
                rfl
              refine pure_ (i := 11) (N := some 26) (v := ?_) (a' := ?_) #[true, true, true, true, true, true, true, true, true, true, true, true, false, false, false, false] rfl rfl (any_of HT_.out (by kernel_rfl)) (fun _ _ _ h => h) (Or.inl ⟨by rfl, ?_⟩) ?_ ?_
              rotate_left
              · intro w'
                go_simp
                with_reducible rfl
              rotate_left
              · simp only [Act.put, List.setIfInBounds_toArray, List.set_cons_zero, List.set_cons_succ, i64_w, i32_w]
                rfl
              refine pure_ (i := 12) (N := some 38) (v := ?_) (a' := ?_) #[true, true, true, true, true, true, true, true, true, true, true, true, true, false, false, false] rfl rfl (any_of HT_.out (by kernel_rfl)) (fun _ _ _ h => h) (Or.inl ⟨by rfl, ?_⟩) ?_ ?_
              rotate_left
              · intro w'
                go_simp
                with_reducible rfl
              rotate_left
              · simp only [Act.put, List.setIfInBounds_toArray, List.set_cons_zero, List.set_cons_succ, i64_w, i32_w]
                rfl
              refine pure_ (i := 13) (N := some 39) (v := ?_) (a' := ?_) #[true, true, true, true, true, true, true, true, true, true, true, true, true, true, false, false] rfl rfl (any_of HT_.out (by kernel_rfl)) (fun _ _ _ h => h) (Or.inl ⟨by rfl, ?_⟩) ?_ ?_
              rotate_left
              · intro w'
                go_simp
                with_reducible rfl
              rotate_left
              · simp only [Act.put, List.setIfInBounds_toArray, List.set_cons_zero, List.set_cons_succ, i64_w, i32_w]
                rfl
              refine pure_ (i := 14) (N := some 6) (v := ?_) (a' := ?_) #[true, true, true, true, true, true, true, true, true, true, true, true, true, true, true, false] rfl rfl (any_of HT_.out (by kernel_rfl)) (fun _ _ _ h => h) (Or.inl ⟨by rfl, ?_⟩) ?_ ?_
              rotate_left
              · intro w'
                go_simp
                with_reducible rfl
              rotate_left
              · simp only [Act.put, List.setIfInBounds_toArray, List.set_cons_zero, List.set_cons_succ, i64_w, i32_w]
                rfl
              refine pure_ (i := 15) (N := some 7) (v := ?_) (a' := ?_) #[true, true, true, true, true, true, true, true, true, true, true, true, true, true, true, true] rfl rfl (any_of HT_.out (by kernel_rfl)) (fun _ _ _ h => h) (Or.inl ⟨by rfl, ?_⟩) ?_ ?_
              rotate_left
              · intro w'
                go_simp
                with_reducible rfl
              rotate_left
              · simp only [Act.put, List.setIfInBounds_toArray, List.set_cons_zero, List.set_cons_succ, i64_w, i32_w]
                rfl
              refine done_ (done_of HT_.out (by kernel_rfl)) ?_
              have p26007 : 0 ≤ (x4_1 : Int) := of_decide_eq_true (by first | (with_reducible assumption) | assumption)
              have q26007 : x4_1 < (l0.length : Int) := of_decide_eq_true (by first | (with_reducible assumption) | assumption)
              obtain ⟨ad26007, e26007, hx26007_0, hx26007_1⟩ := at_T40 HR0.out x4_1 p26007 q26007
              obtain rfl : ad26001 = ad26007 := (by injection e26007)
              replace hx26007_0 := (HB.out.cell (World.block_lt_of_cell? w _ hx26007_0)).trans hx26007_0
              replace hx26007_1 := (HB.out.cell (World.block_lt_of_cell? w _ hx26007_1)).trans hx26007_1
              replace p26007 := eq_true p26007
              replace q26007 := eq_true q26007
              try go_wp2_with (first | ((with_reducible refine gate_callee (f := 20) rfl ?_); refine goesL_ (some 46) rfl rfl Tryd.func20 (by kernel_rfl) rfl #[.string ((rd_T40 l0 x4_1).f0)] rfl (by (try simp only [List.map_toArray, List.map_cons, List.map_nil]); first | done | rfl | (simp only [List.length_drop, List.length_take]; rfl)) ?_; (with_reducible refine (tinderref19_Default.calls k1 ((rd_T40 l0 x4_1).f0) t26008 t26009 _ A7.out).mono ?_); rintro e w' ⟨rfl, ⟨nd, rfl⟩⟩; refine ⟨_, rfl, ?_⟩))
              go_ret
              exact ⟨by first | rfl | (simp [errW_none, errW_some] <;> rfl) | (simp [*, errW_none, errW_some] <;> rfl), by repeat (first | (with_reducible first | exact HB.out | apply below_alloc | apply pw_below_drewN | apply below_drew1) | exact HB.out)⟩
        · rw [if_neg c3] at H
          exact absurd H (by simp)
      · rw [if_neg c2] at H
        have c2b0 : decide (x4_1 < (l0.length : Int)) = false := decide_eq_false c2
        clear c2
        obtain rfl := Option.some.inj H
        go_wp2
        go_ret
        exact ⟨by first | rfl | (simp [errW_none, errW_some] <;> rfl) | (simp [*, errW_none, errW_some] <;> rfl), by repeat (first | (with_reducible first | exact HB.out | apply below_alloc | apply pw_below_drewN | apply below_drew1) | exact HB.out)⟩

end Go.Proofs.YtefhngadeimklaaDoor.Q
end
section
set_option linter.unusedSimpArgs false
set_option linter.unusedVariables false
namespace Go.Proofs.YtefhngadeimklaaDoor.Q
open Go.RowKit Go.Proofs.YtefhngadeimklaaDoorW.PrintWords Go.Proofs.YtefhngadeimklaaDoorW.PrintLast
def vars9 : List S57 := (vars_all.f).getD []
theorem vars9_eq : vars_all.f = some vars9 := rfl
theorem vars9_len : vars9.length = 9 := rfl
def nmV (i : Int) : ByteArray := (rd_T57 vars9 i).f0
def kdV (i : Int) : Int := (rd_T57 vars9 i).f1
def stV (i : Int) : ByteArray := (rd_T57 vars9 i).f2
def rkV (i : Int) : Int := if kdV i = 0 then 98 else if kdV i = 1 then 110 else 116
theorem variable_eq (i : Int) (h : 0 ≤ i ∧ i < 9) : tinderref19_Variable.f i = some (nmV i, rkV i, stV i) := by
  obtain h | h | h | h | h | h | h | h | h : i = 0 ∨ i = 1 ∨ i = 2 ∨ i = 3 ∨ i = 4 ∨ i = 5 ∨ i = 6 ∨ i = 7 ∨ i = 8 := by omega
  all_goals (subst h; rfl)
theorem kd_range (i : Int) (h : 0 ≤ i ∧ i < 9) : kdV i = 0 ∨ kdV i = 1 ∨ kdV i = 2 := by
  obtain h | h | h | h | h | h | h | h | h : i = 0 ∨ i = 1 ∨ i = 2 ∨ i = 3 ∨ i = 4 ∨ i = 5 ∨ i = 6 ∨ i = 7 ∨ i = 8 := by omega
  all_goals (subst h; decide)
def fndG (s : ByteArray) : Nat → Int → Int
  | 0, _ => -1
  | d + 1, i => if (nmV i).toList = s.toList then i else fndG s d (i + 1)
def fndF (s : ByteArray) : Int := fndG s 9 0
theorem fndG_range (s : ByteArray) : ∀ (d : Nat) (i : Int), fndG s d i = -1 ∨ (i ≤ fndG s d i ∧ fndG s d i < i + d)
  | 0, _ => .inl rfl
  | d + 1, i => by
    unfold fndG
    split
    · exact .inr ⟨Int.le_refl _, by omega⟩
    · rcases fndG_range s d (i + 1) with h | h
      · exact .inl h
      · exact .inr ⟨by omega, by omega⟩
theorem fndG_name (s : ByteArray) : ∀ (d : Nat) (i : Int), 0 ≤ i → 0 ≤ fndG s d i → (nmV (fndG s d i)).toList = s.toList
  | 0, _, _, h => absurd h (by unfold fndG; decide)
  | d + 1, i, h0, h => by
    unfold fndG at h ⊢
    split
    · assumption
    · rename_i hn
      rw [if_neg hn] at h
      exact fndG_name s d (i + 1) (by omega) h
theorem fndG_congr {s t : ByteArray} (e : s.toList = t.toList) : ∀ (d : Nat) (i : Int), fndG s d i = fndG t d i
  | 0, _ => rfl
  | d + 1, i => by unfold fndG; rw [e, fndG_congr e d (i + 1)]
theorem fndF_congr {s t : ByteArray} (e : s.toList = t.toList) : fndF s = fndF t := fndG_congr e 9 0
theorem fndF_range (s : ByteArray) : -1 ≤ fndF s ∧ fndF s < 9 := by
  rcases fndG_range s 9 0 with h | h <;> unfold fndF <;> omega
def fndR (n : Int) : ByteArray × Int × ByteArray × Int × Bool := if 0 ≤ n then (nmV n, kdV n, stV n, n, true) else ((⟨#[]⟩ : ByteArray), 0, (⟨#[]⟩ : ByteArray), (-1), false)
theorem find_go (s : ByteArray) : ∀ (d k : Nat) (i : Int), 0 ≤ i → i + d = 9 → d < k → vars_find.l0 k s vars9 9 i = some (fndR (fndG s d i))
  | 0, k, i, h0, h1, hk => by
    obtain ⟨k, rfl⟩ : ∃ m, k = m + 1 := ⟨k - 1, by omega⟩
    rw [vars_find.l0, if_neg (by omega)]
    rfl
  | d + 1, k, i, h0, h1, hk => by
    obtain ⟨k, rfl⟩ : ∃ m, k = m + 1 := ⟨k - 1, by omega⟩
    have hw : wrap64 (i + 1) = i + 1 := by unfold wrap64; omega
    rw [vars_find.l0, if_pos (by omega), if_pos h0, if_pos (by rw [vars9_len]; omega), hw, find_go s d k (i + 1) (by omega) (by omega) (by omega), fndG]
    by_cases he : (nmV i).toList = s.toList
    · rw [if_pos he, show fndR i = (nmV i, kdV i, stV i, i, true) from if_pos h0]
      exact if_pos he
    · rw [if_neg he]
      exact if_neg he
theorem find_eq (k : Nat) (hk : 10 ≤ k) (s : ByteArray) : vars_find.f k s = some (fndR (fndF s)) := by
  unfold vars_find.f
  rw [vars9_eq, Option.bind_some, vars9_len]
  exact find_go s 9 k 0 (Int.le_refl _) rfl (by omega)
theorem reffind_go (s : ByteArray) : ∀ (d k : Nat) (i : Int), 0 ≤ i → i + d = 9 → d < k → tinderref19_find.l0 k s i = some (fndG s d i)
  | 0, k, i, h0, h1, hk => by
    obtain ⟨k, rfl⟩ : ∃ m, k = m + 1 := ⟨k - 1, by omega⟩
    rw [tinderref19_find.l0, if_neg (by omega)]
    rfl
  | d + 1, k, i, h0, h1, hk => by
    obtain ⟨k, rfl⟩ : ∃ m, k = m + 1 := ⟨k - 1, by omega⟩
    have hw : wrap64 (i + 1) = i + 1 := by unfold wrap64; omega
    rw [tinderref19_find.l0, if_pos (by omega), variable_eq i ⟨h0, by omega⟩, Option.bind_some, hw, reffind_go s d k (i + 1) (by omega) (by omega) (by omega), fndG]
    by_cases he : (nmV i).toList = s.toList
    · rw [if_pos he, if_pos he]
    · rw [if_neg he, if_neg he]
theorem reffind_eq (k : Nat) (hk : 10 ≤ k) (s : ByteArray) : tinderref19_find.f k s = some (fndF s) := reffind_go s 9 k 0 (Int.le_refl _) rfl (by omega)
def defF (s : ByteArray) : ByteArray × Int := if 0 ≤ fndF s then (stV (fndF s), 0) else ((⟨#[]⟩ : ByteArray), 2)
theorem refdefault_eq (k : Nat) (hk : 10 ≤ k) (s : ByteArray) : tinderref19_Default.f k s = some (defF s) := by
  have hr := fndF_range s
  unfold tinderref19_Default.f defF
  rw [reffind_eq k hk, Option.bind_some]
  by_cases h : 0 ≤ fndF s
  · rw [if_pos h, if_neg (by omega), variable_eq _ ⟨h, hr.2⟩]; rfl
  · rw [if_neg h, if_pos (by omega)]
def okB (c : Int) : Bool := decide (32 ≤ c) && decide (c ≤ 126)
def trueL : List UInt8 := [116, 114, 117, 101]
def falseL : List UInt8 := [102, 97, 108, 115, 101]
def formV (kd : Int) (v : ByteArray) : ByteArray × Bool :=
  if kd = 0 then (v, decide (v.toList = trueL) || decide (v.toList = falseL))
  else if kd = 1 then (if (parF v 10).2 = 0 then (showB 10 (parF v 10).1, true) else ((⟨#[]⟩ : ByteArray), false))
  else if (bytesOf v).all okB = true then (v, decide (v.size ≤ 128)) else ((⟨#[]⟩ : ByteArray), false)
theorem par_range (s : ByteArray) (b : Int) (hb : 2 ≤ b ∧ b ≤ 36) (hs : s.size ≤ 9223372036854775806) : 0 ≤ (parF s b).1 ∧ (parF s b).1 < 4294967296 := by
  have hp : ∀ (l : List Int) (n : Int) (g : Bool), (g = false → 0 ≤ n ∧ n < 4294967296) → ∀ m, parL b l n g = some (m, false) → 0 ≤ m ∧ m < 4294967296 := by
    intro l
    induction l with
    | nil =>
      intro n g hg m hm
      simp only [parL_nil, Option.some.injEq, Prod.mk.injEq] at hm
      obtain ⟨rfl, rfl⟩ := hm
      exact hg rfl
    | cons c l ih =>
      intro n g hg m hm
      rw [parL_cons] at hm
      split at hm
      · split at hm
        · exact ih n true (fun h => by cases h) m hm
        · rename_i hgf
          have hn := hg (by simpa using hgf)
          have hv := val_range c b
          refine ih _ _ (fun h => ?_) m hm
          have h := of_decide_eq_false h
          have h2 : 0 ≤ n * b := Int.mul_nonneg hn.1 (by omega)
          omega
      · cases hm
  have hq : ∀ (neg : Bool) (l : List Int), 0 ≤ (resF neg (parL b l 0 false)).1 ∧ (resF neg (parL b l 0 false)).1 < 4294967296 := by
    intro neg l
    cases he : parL b l 0 false with
    | none => exact ⟨(by decide : (0 : Int) ≤ 0), (by decide : (0 : Int) < 4294967296)⟩
    | some y =>
      obtain ⟨m, g⟩ := y
      cases g with
      | true => exact ⟨(by decide : (0 : Int) ≤ 0), (by decide : (0 : Int) < 4294967296)⟩
      | false =>
        have := hp l 0 false (fun _ => ⟨by decide, by decide⟩) m he
        cases neg with
        | true => rw [resF_neg]; dsimp only; omega
        | false => rw [resF_pos]; exact this
  unfold parF
  rw [if_pos hb]
  split
  · split
    · exact ⟨by decide, by decide⟩
    · exact hq _ _
  · split
    · exact ⟨by decide, by decide⟩
    · exact hq _ _
theorem text_go (v : ByteArray) (hv : v.size ≤ 140737488351232) : ∀ (d k : Nat) (i : Int), 0 ≤ i → i + d = v.size → d < k → vars_variable_form.l0 k v v.size i = some (if ((bytesOf v).drop i.toNat).all okB = true then (v, decide (v.size ≤ 128)) else ((⟨#[]⟩ : ByteArray), false))
  | 0, k, i, h0, h1, hk => by
    obtain ⟨k, rfl⟩ : ∃ m, k = m + 1 := ⟨k - 1, by omega⟩
    rw [vars_variable_form.l0, if_neg (by omega), List.drop_eq_nil_of_le (by rw [bytesOf_length]; omega), List.all_nil, if_pos rfl]
    congr 2
    exact decide_eq_decide.2 (by omega)
  | d + 1, k, i, h0, h1, hk => by
    obtain ⟨k, rfl⟩ : ∃ m, k = m + 1 := ⟨k - 1, by omega⟩
    have hw : wrap64 (i + 1) = i + 1 := by unfold wrap64; omega
    rw [vars_variable_form.l0, if_pos (by omega), if_pos h0, if_pos (by omega), hw, text_go v hv d k (i + 1) (by omega) (by omega) (by omega), bytes_at v i h0 (by omega), List.all_cons, okB]
    by_cases h2 : bt v i < 32
    · rw [if_pos h2]; simp [show ¬ 32 ≤ bt v i by omega]
    · rw [if_neg h2]
      by_cases h3 : bt v i > 126
      · rw [if_pos h3]; simp [show ¬ bt v i ≤ 126 by omega]
      · rw [if_neg h3]; simp [show 32 ≤ bt v i by omega, show bt v i ≤ 126 by omega]
theorem form_var_eq (k : Nat) (nm st v : ByteArray) (kd : Int) (hv : v.size ≤ 140737488351232) (hk : v.size + 100 < k) : vars_variable_form.f k nm kd st v = some (formV kd v) := by
  unfold vars_variable_form.f formV
  by_cases h0 : kd = 0
  · rw [if_pos h0, if_pos h0, show ([116, 114, 117, 101] : List UInt8) = trueL from rfl, show ([102, 97, 108, 115, 101] : List UInt8) = falseL from rfl]
    by_cases h1 : v.toList = trueL
    · rw [if_pos h1]; simp [h1]
    · rw [if_neg h1, decide_eq_false h1, Bool.false_or]
      congr 2
      by_cases h2 : v.toList = falseL
      · rw [decide_eq_true h2]; exact beq_iff_eq.2 h2
      · rw [decide_eq_false h2]; exact beq_eq_false_iff_ne.2 h2
  · rw [if_neg h0, if_neg h0]
    by_cases h1 : kd = 1
    · rw [if_pos h1, if_pos h1, parse_eq k v 10 (by omega) (by omega), Option.bind_some]
      by_cases h2 : (parF v 10).2 = 0
      · have hr := par_range v 10 (by decide) (by omega)
        rw [if_pos h2, if_pos h2, digit_Show.f, if_pos hr, if_pos rfl]
        rfl
      · rw [if_neg h2, if_neg h2]
    · rw [if_neg h1, if_neg h1, text_go v hv v.size k 0 (Int.le_refl _) (by omega) (by omega)]
      rfl
def formF (s v : ByteArray) : ByteArray × Int := if 0 ≤ fndF s then (if (formV (kdV (fndF s)) v).2 = true then ((formV (kdV (fndF s)) v).1, 0) else ((⟨#[]⟩ : ByteArray), 27)) else ((⟨#[]⟩ : ByteArray), 2)
theorem form_eq (k : Nat) (s v : ByteArray) (hv : v.size ≤ 140737488351232) (hk : v.size + 100 < k) : vars_Form.f k s v = some (formF s v) := by
  unfold vars_Form.f formF
  rw [find_eq k (by omega), Option.bind_some, fndR]
  by_cases h : 0 ≤ fndF s
  · rw [if_pos h, if_pos h, if_pos rfl, form_var_eq k _ _ v _ hv hk, Option.bind_some]
    split <;> rfl
  · rw [if_neg h, if_neg h]; rfl
theorem reftext_go (v : ByteArray) (hv : v.size ≤ 140737488351232) : ∀ (d k : Nat) (i : Int), 0 ≤ i → i + d = v.size → d < k → tinderref19_Form.l0 k v i = some (if ((bytesOf v).drop i.toNat).all okB = true then (if v.size ≤ 128 then (v, 0) else ((⟨#[]⟩ : ByteArray), 27)) else ((⟨#[]⟩ : ByteArray), 27))
  | 0, k, i, h0, h1, hk => by
    obtain ⟨k, rfl⟩ : ∃ m, k = m + 1 := ⟨k - 1, by omega⟩
    rw [tinderref19_Form.l0, if_neg (by omega), List.drop_eq_nil_of_le (by rw [bytesOf_length]; omega), List.all_nil, if_pos rfl]
    by_cases h : v.size ≤ 128
    · rw [if_pos (by omega), if_pos h]
    · rw [if_neg (by omega), if_neg h]
  | d + 1, k, i, h0, h1, hk => by
    obtain ⟨k, rfl⟩ : ∃ m, k = m + 1 := ⟨k - 1, by omega⟩
    have hw : wrap64 (i + 1) = i + 1 := by unfold wrap64; omega
    rw [tinderref19_Form.l0, if_pos (by omega), if_pos h0, hw, reftext_go v hv d k (i + 1) (by omega) (by omega) (by omega), bytes_at v i h0 (by omega), List.all_cons, okB]
    by_cases h2 : bt v i < 32
    · rw [if_pos h2]; simp [show ¬ 32 ≤ bt v i by omega]
    · rw [if_neg h2]
      by_cases h3 : bt v i > 126
      · rw [if_pos h3]; simp [show ¬ bt v i ≤ 126 by omega]
      · rw [if_neg h3]; simp [show 32 ≤ bt v i by omega, show bt v i ≤ 126 by omega]
theorem refform_eq (k : Nat) (s v : ByteArray) (hv : v.size ≤ 140737488351232) (hk : v.size + 100 < k) : tinderref19_Form.f k s v = some (formF s v) := by
  have hr := fndF_range s
  unfold tinderref19_Form.f formF
  rw [reffind_eq k (by omega), Option.bind_some]
  by_cases h : 0 ≤ fndF s
  · rw [if_pos h, if_neg (by omega), variable_eq _ ⟨h, hr.2⟩, Option.bind_some, rkV, formV]
    rcases kd_range _ ⟨h, hr.2⟩ with e | e | e
    · rw [e]
      simp only [if_pos, if_true]
      rw [show ([116, 114, 117, 101] : List UInt8) = trueL from rfl, show ([102, 97, 108, 115, 101] : List UInt8) = falseL from rfl]
      by_cases h1 : v.toList = trueL
      · simp [h1]
      · by_cases h2 : v.toList = falseL
        · simp [h2]
        · simp [h1, h2]
    · rw [e]
      dsimp only
      rw [if_neg (show ¬ (if (1 : Int) = 0 then (98 : Int) else if (1 : Int) = 1 then 110 else 116) = 98 by decide), if_pos (show (if (1 : Int) = 0 then (98 : Int) else if (1 : Int) = 1 then 110 else 116) = 110 by decide), if_neg (show ¬ (1 : Int) = 0 by decide), if_pos rfl, refparse_eq k v 10 (by omega) (by omega), Option.bind_some]
      by_cases h2 : (parF v 10).2 = 0
      · have hp := par_range v 10 (by decide) (by omega)
        rw [if_pos h2, if_pos h2, tinderref02_Show.f, if_pos hp, if_pos (by decide), if_pos rfl]
        rfl
      · rw [if_neg h2, if_neg h2, if_neg (by decide)]
    · rw [e]
      dsimp only
      rw [if_neg (show ¬ (if (2 : Int) = 0 then (98 : Int) else if (2 : Int) = 1 then 110 else 116) = 98 by decide), if_neg (show ¬ (if (2 : Int) = 0 then (98 : Int) else if (2 : Int) = 1 then 110 else 116) = 110 by decide), if_neg (show ¬ (2 : Int) = 0 by decide), if_neg (show ¬ (2 : Int) = 1 by decide), reftext_go v hv v.size k 0 (Int.le_refl _) (by omega) (by omega)]
      rw [show ((0 : Int).toNat) = 0 from rfl, List.drop_zero]
      by_cases h2 : (bytesOf v).all okB = true
      · rw [if_pos h2, if_pos h2]
        by_cases h3 : v.size ≤ 128
        · simp [h3]
        · simp [h3]
      · rw [if_neg h2, if_neg h2, if_neg (by decide)]
  · rw [if_neg h, if_pos (by omega)]
/-- May a setting stand behind the variable of number 'last'? -/
def okV (last : Int) (x : S40) : Bool := decide (0 ≤ fndF x.f0) && (formV (kdV (fndF x.f0)) x.f1).2 && decide (last < fndF x.f0) && decide ((formV (kdV (fndF x.f0)) x.f1).1.toList = x.f1.toList) && !decide ((formV (kdV (fndF x.f0)) x.f1).1.toList = (stV (fndF x.f0)).toList)
def rightL : List S40 → Int → Bool
  | [], _ => true
  | x :: r, last => okV last x && rightL r (fndF x.f0)
def rightF (l : List S40) : Bool := rightL l (-1)
def Fits (l : List S40) : Prop := ∀ x ∈ l, x.f0.size ≤ 140737488351232 ∧ x.f1.size ≤ 140737488351232
theorem at_drop (l : List S40) (i : Int) (h0 : 0 ≤ i) (h1 : i < l.length) : l.drop i.toNat = rd_T40 l i :: l.drop (i + 1).toNat := by
  rw [List.drop_eq_getElem_cons (show i.toNat < l.length by omega), show (i + 1).toNat = i.toNat + 1 by omega]
  simp [rd_T40, List.getD_eq_getElem?_getD, List.getElem?_eq_getElem (show i.toNat < l.length by omega)]
theorem rd_mem (l : List S40) (i : Int) (h0 : 0 ≤ i) (h1 : i < l.length) : rd_T40 l i ∈ l := by
  have h := at_drop l i h0 h1
  exact List.mem_of_mem_drop (h ▸ List.mem_cons_self ..)
theorem right_go (l : List S40) (hf : Fits l) : ∀ (d k : Nat) (i last : Int), 0 ≤ i → i + d = l.length → l.length < 1125899906842624 → d + 140737488351400 < k → vars_Right.l0 k last l l.length i = some (rightL (l.drop i.toNat) last)
  | 0, k, i, last, h0, h1, hl, hk => by
    obtain ⟨k, rfl⟩ : ∃ m, k = m + 1 := ⟨k - 1, by omega⟩
    rw [vars_Right.l0, if_neg (by omega), List.drop_eq_nil_of_le (by omega)]
    rfl
  | d + 1, k, i, last, h0, h1, hl, hk => by
    obtain ⟨k, rfl⟩ : ∃ m, k = m + 1 := ⟨k - 1, by omega⟩
    have hw : wrap64 (i + 1) = i + 1 := by unfold wrap64; omega
    have hx := hf _ (rd_mem l i h0 (by omega))
    rw [vars_Right.l0, if_pos (by omega), if_pos h0, if_pos (by omega), find_eq k (by omega), Option.bind_some, hw, right_go l hf d k (i + 1) _ (by omega) (by omega) hl (by omega), at_drop l i h0 (by omega), rightL, okV, form_var_eq k _ _ _ _ hx.2 (by omega), Option.bind_some]
    generalize rd_T40 l i = x
    unfold fndR
    by_cases h : 0 ≤ fndF x.f0
    · rw [if_pos h, if_pos rfl, decide_eq_true h]
      by_cases h2 : (formV (kdV (fndF x.f0)) x.f1).2 = true
      · rw [if_pos h2, h2]
        by_cases h3 : fndF x.f0 ≤ last
        · rw [if_pos h3]; simp [show ¬ last < fndF x.f0 by omega]
        · rw [if_neg h3]
          by_cases h4 : (formV (kdV (fndF x.f0)) x.f1).1.toList = x.f1.toList
          · rw [if_pos h4]
            by_cases h5 : (formV (kdV (fndF x.f0)) x.f1).1.toList = (stV (fndF x.f0)).toList
            · rw [if_pos h5]; simp [h5]
            · rw [if_neg h5]; simp [h4, show last < fndF x.f0 by omega, h4 ▸ h5]
          · rw [if_neg h4]; simp [h4]
      · rw [if_neg h2]; simp [h2]
    · rw [if_neg h, if_neg (by decide)]; simp [h]
theorem right_eq (l : List S40) (hf : Fits l) (hl : l.length < 1125899906842624) (k : Nat) (hk : l.length + 140737488351400 < k) : vars_Right.f k l = some (rightF l) := right_go l hf l.length k 0 (-1) (Int.le_refl _) (by omega) hl hk
theorem refright_go (l : List S40) (hf : Fits l) : ∀ (d k : Nat) (i last : Int), 0 ≤ i → i + d = l.length → l.length < 1125899906842624 → d + 140737488351400 < k → -1 ≤ last → tinderref19_Right.l0 k l last i = some (rightL (l.drop i.toNat) last)
  | 0, k, i, last, h0, h1, hl, hk, hla => by
    obtain ⟨k, rfl⟩ : ∃ m, k = m + 1 := ⟨k - 1, by omega⟩
    rw [tinderref19_Right.l0, if_neg (by omega), List.drop_eq_nil_of_le (by omega)]
    rfl
  | d + 1, k, i, last, h0, h1, hl, hk, hla => by
    obtain ⟨k, rfl⟩ : ∃ m, k = m + 1 := ⟨k - 1, by omega⟩
    have hw : wrap64 (i + 1) = i + 1 := by unfold wrap64; omega
    have hx := hf _ (rd_mem l i h0 (by omega))
    have hr := fndF_range (rd_T40 l i).f0
    rw [tinderref19_Right.l0, if_pos (by omega), if_pos h0, reffind_eq k (by omega), Option.bind_some, hw, refright_go l hf d k (i + 1) _ (by omega) (by omega) hl (by omega) hr.1, at_drop l i h0 (by omega), rightL, okV, refform_eq k _ _ hx.2 (by omega), Option.bind_some, refdefault_eq k (by omega), Option.bind_some]
    generalize rd_T40 l i = x at *
    by_cases h3 : fndF x.f0 ≤ last
    · rw [if_pos h3]; simp [show ¬ last < fndF x.f0 by omega]
    · rw [if_neg h3]
      have h : 0 ≤ fndF x.f0 := by omega
      rw [formF, if_pos h, defF, if_pos h, decide_eq_true h]
      by_cases h2 : (formV (kdV (fndF x.f0)) x.f1).2 = true
      · rw [if_pos h2, h2, if_pos rfl]
        by_cases h4 : (formV (kdV (fndF x.f0)) x.f1).1.toList = x.f1.toList
        · rw [if_pos h4]
          by_cases h5 : (formV (kdV (fndF x.f0)) x.f1).1.toList = (stV (fndF x.f0)).toList
          · rw [if_pos h5]; simp [h5]
          · rw [if_neg h5]; simp [h4, show last < fndF x.f0 by omega, h4 ▸ h5]
        · rw [if_neg h4]; simp [h4]
      · rw [if_neg h2, if_neg (by decide)]; simp [h2]
theorem refright_eq (l : List S40) (hf : Fits l) (hl : l.length < 1125899906842624) (k : Nat) (hk : l.length + 140737488351400 < k) : tinderref19_Right.f k l = some (rightF l) := refright_go l hf l.length k 0 (-1) (Int.le_refl _) (by omega) hl hk (by decide)
end Go.Proofs.YtefhngadeimklaaDoor.Q
end
section
set_option linter.unusedSimpArgs false
set_option linter.unusedVariables false
namespace Go.Proofs.YtefhngadeimklaaDoor.Q
open Go.RowKit Go.Proofs.YtefhngadeimklaaDoorW.PrintWords Go.Proofs.YtefhngadeimklaaDoorW.PrintLast Go.Proofs.YtefhngadeimklaaDoorW.PrintMore
attribute [local go_sem] max2_int min2_int max_two min_two max_three min_three max_four min_four
theorem info57s : (Tryd.prog.info? 57).map (·.size) = some 3 := by kernel_rfl
theorem fndR_no (s : ByteArray) : (fndR (fndF s)).2.2.2.1 = fndF s := by
  have h := fndF_range s
  unfold fndR
  split
  · rfl
  · show (-1 : Int) = _
    omega
set_option maxHeartbeats 1000000 in
theorem gtC_calls (x : S40) (n : Int) (gn : Nat) (w : World) (hh : w.heap[gn]? = some (.cells #[.int .i64 n] 3 (0, 0))) :
    Calls Tryd.prog 42 #[.agg #[.string x.f0, .string x.f1], .pointer (some ⟨gn, 0, none⟩)] w fun e w' => e = .returned (.bool (decide (n < fndF x.f0))) ∧ Below w.heap.size w w' := by
  have hu40 := Tryd.underlying40
  have hu57 := Tryd.underlying57
  have hlt := blk_lt hh
  have h4 := fndR_no x.f0
  have hfe := find_eq 10 (by decide) x.f0
  generalize hfr : fndR (fndF x.f0) = R at h4 hfe
  obtain ⟨r1, r2, r3, r4, r5⟩ := R
  have h4 : r4 = fndF x.f0 := h4
  have HC := Aside0.mk (fun W : World => vars_find.calls 10 x.f0 r1 r2 r3 r4 r5 W hfe)
  have H4 := Aside0.mk h4
  rw [← h4]
  have HB := Aside0.mk (Below.refl w.heap.size w)
  have HH := Aside0.mk hh
  have HLT := Aside0.mk hlt
  clear hh hlt h4 hfe hfr
  go_enter Tryd.func42, Tryd.ntmps42
  go_wp2_with (first
    | ((with_reducible refine gate_dst (N := 2) rfl ?_); refine box_event ?hg (N := 2) ?hd (cs := #[.string x.f0, .string x.f1]) (t := 40) ?hr ?_; (case hd => rfl); (case hg => rfl); (case hr => first | (go_simp; done) | (go_simp; rfl)); intro ga hg w1 hbox hb; have BK := Aside0.mk hbox; have hz0 := (blk_cell BK.out 0).trans rfl; have hz1 := (blk_cell BK.out 1).trans rfl; have hf0 := blk_frozen BK.out 0; have hf1 := blk_frozen BK.out 1; have hz2 : w1.cell? ⟨gn, 0, none⟩ = some (.int .i64 n) := (hb.cell (p := ⟨gn, 0, none⟩) HLT.out).trans ((blk_cell HH.out 0).trans rfl); have HB1 := Aside0.mk hb; clear hbox hb hg)
    | (go_at_call 37; (with_reducible refine (HC.out _).mono ?_); rintro e w2 ⟨rfl, hb⟩; replace hz2 := (hb.cell (World.block_lt_of_cell? _ _ hz2)).trans hz2; have HB2 := Aside0.mk (below_step HB1.out hb); clear hb; clear hz0 hz1 hf0 hf1)
    | ((with_reducible refine gate_dst (N := 4) rfl ?_); refine box_event ?hg (N := 4) ?hd (cs := #[.string ⟨#[]⟩, .int .i64 0, .string ⟨#[]⟩]) (t := 57) ?hr ?_; (case hd => rfl); (case hg => rfl); (case hr => first | (go_simp; done) | (go_simp; rfl)); intro g4 hg4 w3 hbox hb; have BK4 := Aside0.mk hbox; replace hz2 := (hb.cell (World.block_lt_of_cell? _ _ hz2)).trans hz2; have HB3 := Aside0.mk (below_step HB2.out hb); have HG4 := Aside0.mk (show w.heap.size ≤ g4 by rw [hg4]; exact HB2.out.size); clear hbox hb hg4)
    | (refine store_box rfl rfl 57 (.tmp 4) (.tmp 11) rfl (.agg #[.string r1, .int .i64 r2, .string r3]) [.string r1, .int .i64 r2, .string r3] rfl rfl rfl info57s (by simp [Value.oneCell']) BK4.out rfl ?_; intro w4 hbox hg; replace hz2 := hg.cell hz2 (fun e => by injection e with e; have := HG4.out; have := HLT.out; have e : gn = g4 := e; omega); have HB4 := Aside0.mk (HB3.out.grown hg HB3.out.size (fun k hk => by injection hk with hk; have := HG4.out; omega)); clear hbox hg))
  go_ret
  exact ⟨by rw [H4.out]; rfl, HB4.out⟩
/-- The first place of a setting whose variable stands behind n; -1: none. -/
def idxG (n : Int) : List S40 → Int
  | [] => -1
  | x :: r => if n < fndF x.f0 then 0 else if idxG n r < 0 then -1 else idxG n r + 1
theorem idxG_range (n : Int) : ∀ l : List S40, -1 ≤ idxG n l ∧ idxG n l < l.length
  | [] => ⟨Int.le_refl _, by simp [idxG]⟩
  | x :: r => by
    have ih := idxG_range n r
    unfold idxG
    rw [List.length_cons]
    split
    · omega
    · split <;> omega
theorem idxG_drop (n : Int) : ∀ (l : List S40) (i : Nat), (∀ j, j < i → i ≤ l.length → ¬ n < fndF (rd_T40 l j).f0) → i ≤ l.length → idxG n l = if idxG n (l.drop i) < 0 then -1 else idxG n (l.drop i) + i
  | l, 0, _, _ => by
    have := idxG_range n l
    rw [List.drop_zero]
    split <;> omega
  | [], i + 1, _, hl => by simp at hl
  | x :: r, i + 1, h, hl => by
    have hl' : i ≤ r.length := by simpa using hl
    have ih := idxG_drop n r i (fun j hj _ => by
      have := h (j + 1) (by omega) hl
      simpa [rd_T40] using this) hl'
    have h0 : ¬ n < fndF x.f0 := by simpa [rd_T40] using h 0 (by omega) hl
    have hr := idxG_range n (r.drop i)
    rw [List.drop_succ_cons, idxG, if_neg h0, ih]
    by_cases hq : idxG n (List.drop i r) < 0
    · simp [hq]
    · simp only [hq, if_false]
      rw [if_neg (by omega)]
      omega
set_option maxHeartbeats 2000000 in
set_option maxRecDepth 100000 in
theorem indexGt_calls (n : Int) (gn : Nat) (A : Option Addr) (c : Nat) (l : List S40) (w : World) (hC : Kd.C k40 w A l.length l) (hh : w.heap[gn]? = some (.cells #[.int .i64 n] 3 (0, 0))) :
    Calls Tryd.prog 41 #[.slice A l.length c, .func (.func 42) #[] #[.pointer (some ⟨gn, 0, none⟩)]] w fun e w' => e = .returned (.int .i64 (idxG n l)) ∧ Below w.heap.size w w' := by
  have hu40 := Tryd.underlying40
  have hlt := blk_lt hh
  have HC := Aside0.mk hC
  have HH := Aside0.mk hh
  have HLT := Aside0.mk hlt
  have HF := Aside0.mk (fun (x : S40) (W : World) (hb : Below w.heap.size w W) => gtC_calls x n gn W (by rw [hb.block gn hlt]; exact hh))
  clear hC hh hlt
  go_enter Tryd.func41, Tryd.ntmps41
  go_wp2
  go_loopg [8] l.length (fun kq v8 w' => ∃ i : Int, v8 = .int .i64 i ∧ Aside0 (0 ≤ i ∧ i + kq = l.length) ∧ Aside0 (∀ j : Nat, j < i.toNat → ¬ n < fndF (rd_T40 l j).f0) ∧ Aside0 (Below w.heap.size w w'))
  case atStart => exact ⟨0, rfl, ⟨by omega, by omega⟩, ⟨fun j hj => absurd hj (by simp)⟩, ⟨Below.refl _ _⟩⟩
  case round =>
    obtain ⟨i, rfl, HI, HZ, HB⟩ := hrel
    cases gk with
    | zero =>
      have hlt : decide (i < (l.length : Int)) = false := decide_eq_false (by have := HI.out; omega)
      go_wp2
      go_ret
      have hz := HZ.out
      have hi := HI.out
      refine ⟨?_, HB.out⟩
      rw [idxG_drop n l i.toNat (fun j hj _ => Int.not_lt.2 (hz j hj)) (by omega), List.drop_eq_nil_of_le (by omega)]
      rfl
    | succ k1 =>
      have hi := HI.out
      have hm := Kd.C_max HC.out
      have hlt : decide (i < (l.length : Int)) = true := decide_eq_true (by omega)
      have p1 : (0 ≤ i) = True := eq_true (by omega)
      have p2 : (i < (l.length : Int)) = True := eq_true (by omega)
      obtain ⟨ad, eA, hx0, hx1⟩ := at_T40 (Kd.C_below HC.out HB.out) i (by omega) (by omega)
      cases eA
      have HIN := Aside0.mk (show n < fndF (rd_T40 l i).f0 → idxG n l = i from fun h => by
        rw [idxG_drop n l i.toNat (fun j hj _ => HZ.out j hj) (by omega), List.drop_eq_getElem_cons (show i.toNat < l.length by omega)]
        have hg : l[i.toNat]'(by omega) = rd_T40 l i := by simp [rd_T40, List.getD_eq_getElem?_getD, List.getElem?_eq_getElem (show i.toNat < l.length by omega)]
        rw [hg, idxG, if_pos h, if_neg (by omega)]
        omega)
      have hwr : IntKind.i64.wrap (i + 1) = i + 1 := (i64_w _).trans (by unfold wrap64; omega)
      have hwr2 : wrap64 (i + 1) = i + 1 := by unfold wrap64; omega
      clear hi hm
      by_cases hz : n < fndF (rd_T40 l i).f0
      · have hzb : decide (n < fndF (rd_T40 l i).f0) = true := decide_eq_true hz
        have HZN := Aside0.mk hz
        clear hz
        go_wp2_with (first
          | (go_at_call 42; (with_reducible refine (HF.out (rd_T40 l i) _ HB.out).mono ?_); rintro e w2 ⟨rfl, hb⟩; have HB2 := Aside0.mk (below_step HB.out hb); clear hb))
        go_ret
        exact ⟨by rw [HIN.out HZN.out]; rfl, HB2.out⟩
      · have hzb : decide (n < fndF (rd_T40 l i).f0) = false := decide_eq_false hz
        have HZN := Aside0.mk hz
        clear hz
        go_wp2_with (first
          | (go_at_call 42; (with_reducible refine (HF.out (rd_T40 l i) _ HB.out).mono ?_); rintro e w2 ⟨rfl, hb⟩; have HB2 := Aside0.mk (below_step HB.out hb); clear hb))
        go_roundg k1
        case measure => omega
        case rel =>
          have hi := HI.out
          refine ⟨i + 1, rfl, ⟨by omega, by omega⟩, ⟨fun j hj => ?_⟩, HB2⟩
          by_cases hji : j = i.toNat
          · subst hji
            rw [show ((i.toNat : Nat) : Int) = i by omega]
            exact HZN.out
          · exact HZ.out j (by omega)
end Go.Proofs.YtefhngadeimklaaDoor.Q
end
section
set_option linter.unusedSimpArgs false
set_option linter.unusedVariables false
namespace Go.Proofs.YtefhngadeimklaaDoor.Q
open Go.RowKit Go.Proofs.YtefhngadeimklaaDoorW.PrintWords Go.Proofs.YtefhngadeimklaaDoorW.PrintLast Go.Proofs.YtefhngadeimklaaDoorW.PrintMore
attribute [local go_sem] max2_int min2_int max_two min_two max_three min_three max_four min_four
theorem one_reads (gx : Nat) (x : S40) (w : World) (hx : w.heap[gx]? = some (.cells #[.string x.f0, .string x.f1] 40 (0, 0))) : Kd.C k40 w (some ⟨gx, 0, none⟩) 1 [x] :=
  ⟨rfl, by decide, fun _ => ⟨_, rfl, fun j p hj => by
    match j, hj with
    | 0, hj =>
      obtain rfl : x = p := by simpa using hj
      refine ⟨[.string x.f0, .string x.f1], rfl, k40_mk _ _, fun i u hu => ?_⟩
      rw [Addr.add_lit, Nat.zero_mul, Nat.zero_add, Nat.zero_add, blk_cell hx, ← Array.getElem?_toList]
      exact hu⟩⟩
/-- slices.Insert of one setting into a row of one's own, anywhere. -/
theorem insert_calls (gx : Nat) (x : S40) (v : Value) (l : List S40) (i : Nat) (w : World) (base : Nat) (hR : Kd.R k40 40 w base (fun _ => True) v l) (hi : i ≤ l.length) (hb : base ≤ w.heap.size) (hln : l.length ≤ 1000000) (hx : w.heap[gx]? = some (.cells #[.string x.f0, .string x.f1] 40 (0, 0))) (hne : ∀ k, v.ownBlock = some k → gx ≠ k) :
    Calls Tryd.prog 43 #[v, .int .i64 i, .slice (some ⟨gx, 0, none⟩) 1 1] w fun e w' => ∃ v', e = .returned v' ∧ Kd.R k40 40 w' base (fun _ => True) v' (l.take i ++ x :: l.drop i) ∧ Below base w w' := by
  by_cases he : i = l.length
  · subst he
    rw [List.take_length, List.drop_length]
    exact insertEnd_calls gx x v l w base hR hb hln (one_reads gx x w hx)
  · obtain ⟨A, c, rfl, hc, hC⟩ := Kd.R_reads hR
    cases A with
    | none =>
      rw [C_nil_eq hC] at hi he
      simp at hi he
      omega
    | some ad =>
      obtain ⟨g, rfl⟩ := Kd.R_head hR
      by_cases hroom : l.length + 1 ≤ c
      · exact insertRoom_calls gx x g c l i w base hR (by omega) hroom hb hln hx (hne g (by simp [Value.ownBlock]))
      · exact insertGrow_calls gx x g c l i w base hR (by omega) (by omega) hb hln hx
/-- Ahead of the first whose variable stands behind n; at the end, if there is none. -/
def atG (n : Int) (l : List S40) : Int := if idxG n l < 0 then l.length else idxG n l
def insS (n : Int) (x : S40) (l : List S40) : List S40 := l.take (atG n l).toNat ++ x :: l.drop (atG n l).toNat
def vars_Set.f (k : Nat) (l0 : List S40) (a1 a2 : ByteArray) : Option (List S40 × Int) := (vars_Right.f k l0).bind fun t => if t = true then ((vars_Form.f k a1 a2).bind fun b => if b.2 = 0 then ((vars_find.f k a1).bind fun q => if l0.length ≤ 1000000 then (if b.1.toList = q.2.2.1.toList then some (delN a1 l0, 0) else some (insS q.2.2.2.1 ⟨a1, b.1⟩ (delN a1 l0), 0)) else none) else some (([] : List S40), b.2)) else some (([] : List S40), 1)
theorem delN_len (s : ByteArray) (l : List S40) : (delN s l).length ≤ l.length := List.length_filter_le _ _
theorem below_tr {n : Nat} {a b c : World} (h1 : Below n a b) (h2 : Below n b c) : Below n a c :=
  ⟨h2.1.trans h1.1, h2.2.trans h1.2, h2.3.trans h1.3, Nat.le_trans h1.4 h2.4, fun k hk => (h2.5 k hk).trans (h1.5 k hk)⟩
theorem two_boxes (w3 : World) (o1 o2 : Obj) (n : Nat) (w : World) (hn : n ≤ w3.heap.size) (hb : Below n w w3) : ∃ W4 : World, W4 = (w3.alloc o1).alloc o2 ∧ W4.heap[w3.heap.size]? = some o1 ∧ W4.heap[w3.heap.size + 1]? = some o2 ∧ w3.heap.size + 1 < W4.heap.size ∧ Below n w W4 := by
  have hs : (w3.alloc o1).heap.size = w3.heap.size + 1 := World.size_alloc _ _
  refine ⟨_, rfl, ?_, ?_, ?_, (hb.alloc hn _).alloc (by rw [hs]; omega) _⟩
  · have h2 : Below (w3.alloc o1).heap.size (w3.alloc o1) ((w3.alloc o1).alloc o2) := below_alloc (Below.refl _ _) _
    rw [h2.block w3.heap.size (by omega)]
    exact heap_alloc_new w3 o1
  · rw [← hs]
    exact heap_alloc_new (w3.alloc o1) o2
  · rw [World.size_alloc, hs]
    omega
theorem near {n : Nat} {w w1 w2 : World} (h : Below n w w1) (hn : n ≤ w.heap.size) (h2 : Below w1.heap.size w1 w2) : Below n w w2 :=
  ⟨h2.1.trans h.1, h2.2.trans h.2, h2.3.trans h.3, Nat.le_trans h.4 h2.4, fun k hk => (h2.5 k (by have := h.4; omega)).trans (h.5 k hk)⟩
theorem far_step {n m : Nat} {w w1 w2 : World} (h : Below n w w1) (hm : n ≤ m) (h2 : Below m w1 w2) : Below n w w2 :=
  ⟨h2.1.trans h.1, h2.2.trans h.2, h2.3.trans h.3, Nat.le_trans h.4 h2.4, fun k hk => (h2.5 k (by omega)).trans (h.5 k hk)⟩
set_option maxHeartbeats 8000000 in
set_option maxRecDepth 100000 in
theorem vars_Set.calls (k : Nat) (A0 : Option Addr) (c0 : Nat) (l0 : List S40) (a1 a2 : ByteArray) (r1 : List S40) (r2 : Int) (w : World) (ht : Tabs w) (hr0 : Kd.C k40 w A0 l0.length l0) (hc0 : l0.length ≤ c0) (h : vars_Set.f k l0 a1 a2 = some (r1, r2)) :
    Calls Tryd.prog 13 #[.slice A0 l0.length c0, .string a1, .string a2] w fun e w' => ∃ v0_ : Value, e = .returned (.tuple #[v0_, .int .i64 r2]) ∧ Kd.R k40 40 w' w.heap.size (fun _ => True) v0_ r1 ∧ Below w.heap.size w w' := by
  have hu40 := Tryd.underlying40
  have hu57 := Tryd.underlying57
  unfold vars_Set.f at h
  obtain ⟨t, A1, H⟩ := Option.bind_eq_some_iff.mp h
  clear h
  have HRI := Aside0.mk (vars_Right.calls k A0 c0 l0 t w ht hr0 hc0 A1)
  have HC := Aside0.mk hr0
  have HT := Aside0.mk ht
  cases t with
  | false =>
    rw [if_neg (by decide)] at H
    simp only [Option.some.injEq, Prod.mk.injEq] at H
    obtain ⟨rfl, rfl⟩ := H
    clear hr0 hc0 ht A1
    go_enter Tryd.func13, Tryd.ntmps13
    go_wp2_with (first
      | (go_at_call 16; refine HRI.out.mono ?_; rintro e w1 ⟨rfl, hb⟩; have HB := Aside0.mk hb; clear hb))
    go_ret2
    exact ⟨_, rfl, Kd.R_nil _ _ _ _ _, HB.out⟩
  | true =>
    rw [if_pos rfl] at H
    obtain ⟨⟨s, e0⟩, A2, H⟩ := Option.bind_eq_some_iff.mp H
    dsimp only at H
    have HFO := Aside0.mk (fun (W : World) (hb : Below w.heap.size w W) => vars_Form.calls k a1 a2 s e0 W (Tabs.below ht hb) A2)
    by_cases he : e0 = 0
    · subst he
      rw [if_pos rfl] at H
      obtain ⟨⟨q1, q2, q3, q4, q5⟩, A3, H⟩ := Option.bind_eq_some_iff.mp H
      dsimp only at H
      have HFI := Aside0.mk (fun (W : World) => vars_find.calls k a1 q1 q2 q3 q4 q5 W A3)
      by_cases hl : l0.length ≤ 1000000
      · rw [if_pos hl] at H
        have HL := Aside0.mk hl
        have HDL := Aside0.mk (delN_len a1 l0)
        by_cases hs : s.toList = q3.toList
        · rw [if_pos hs] at H
          simp only [Option.some.injEq, Prod.mk.injEq] at H
          obtain ⟨rfl, rfl⟩ := H
          have hsb : (s.toList == q3.toList) = true := beq_iff_eq.2 hs
          clear hr0 hc0 ht A1 A2 A3 hl hs
          go_enter Tryd.func13, Tryd.ntmps13
          go_wp2_with (first
            | (go_at_call 16; refine HRI.out.mono ?_; rintro e w1 ⟨rfl, hb⟩; have HB := Aside0.mk hb; clear hb)
            | (go_at_call 17; refine (HFO.out _ HB.out).mono ?_; rintro e w2 ⟨rfl, hb⟩; replace HB := Aside0.mk (below_step HB.out hb); clear hb)
            | (go_at_call 37; refine (HFI.out _).mono ?_; rintro e w3 ⟨rfl, hb⟩; replace HB := Aside0.mk (below_step HB.out hb); clear hb))
          obtain ⟨W4, hW4, h10, h11, hg, hb4⟩ := two_boxes w3 (.cells #[.string q1, .int .i64 q2, .string q3] 57 (0, 0)) (.cells #[.int .i64 q4] 3 (0, 0)) w.heap.size w HB.out.4 HB.out
          have HB4 := Aside0.mk hb4
          have HW4 := Aside0.mk (show w.heap.size ≤ W4.heap.size from hb4.4)
          rw [← hW4]
          have HG := Aside0.mk (⟨Nat.le_succ _, hg⟩ : w3.heap.size ≤ w3.heap.size + 1 ∧ w3.heap.size + 1 < W4.heap.size)
          have H10 := Aside0.mk h10
          have H11 := Aside0.mk h11
          clear h10 h11 hg hb4 hW4
          generalize hg11 : w3.heap.size + 1 = g11 at H11 HG ⊢
          generalize hg10 : w3.heap.size = g10 at H10 HG ⊢
          clear hg11 hg10
          go_wp2_with (first
            | (go_at_call 39; (with_reducible refine (clone40_calls A0 c0 l0 _ (Kd.C_below HC.out HB4.out) (by have := HL.out; omega)).mono ?_); rintro e w5 ⟨v5, rfl, hR5, hb5⟩; have HR5 := Aside0.mk hR5; have HB5 := Aside0.mk hb5; clear hR5 hb5)
            | (go_at_call 40; (with_reducible refine (named_calls a1 _).mono ?_); rintro e w6 ⟨gb, rfl, hgb, hh6, hb6⟩; have HH6 := Aside0.mk hh6; have HR6 := Aside0.mk (Kd.R_below HR5.out hb6); have HB6 := Aside0.mk (near HB5.out (Nat.le_refl _) hb6); clear hgb hh6 hb6)
            | (go_at_call 38; (with_reducible refine (delete40_calls a1 gb v5 l0 _ W4.heap.size HR6.out HB6.out.4 (by have := HL.out; omega) HH6.out).mono ?_); rintro e w7 ⟨v7, rfl, hR7, hb7⟩; obtain ⟨A7, c7, rfl, hc7, hC7⟩ := Kd.R_reads hR7; have HR7 := Aside0.mk hR7; have HC7 := Aside0.mk hC7; have HB7 := Aside0.mk (below_tr HB6.out hb7); have hz : w7.cell? ⟨g10, 2, none⟩ = some (.string q3) := (HB7.out.cell (p := ⟨g10, 2, none⟩) (Nat.lt_of_le_of_lt HG.out.1 HG.out.2)).trans ((blk_cell H10.out 2).trans rfl); clear hR7 hC7 hc7 hb7))
          go_ret2
          exact ⟨_, rfl, Kd.R_lower HR7.out HW4.out, far_step HB4.out HW4.out HB7.out⟩
        · rw [if_neg hs] at H
          simp only [Option.some.injEq, Prod.mk.injEq] at H
          obtain ⟨rfl, rfl⟩ := H
          have hsb : (s.toList == q3.toList) = false := beq_eq_false_iff_ne.2 hs
          have hdl := delN_len a1 l0
          have HIG := Aside0.mk (fun (g11 : Nat) (A : Option Addr) (c : Nat) (W : World) (hC : Kd.C k40 W A (delN a1 l0).length (delN a1 l0)) (hh : W.heap[g11]? = some (.cells #[.int .i64 q4] 3 (0, 0))) => indexGt_calls q4 g11 A c (delN a1 l0) W hC hh)
          have HIN := Aside0.mk (fun (i : Nat) (hi : i ≤ (delN a1 l0).length) (v : Value) (w8 : World) (base : Nat) (hR : Kd.R k40 40 w8 base (fun _ => True) v (delN a1 l0)) (hb : base ≤ w8.heap.size) => insert_calls w8.heap.size ⟨a1, s⟩ v (delN a1 l0) i (w8.alloc (.cells #[.string a1, .string s] 40 (0, 0))) base (Kd.R_below hR (below_alloc (Below.refl _ _) _)) hi (by rw [World.size_alloc]; omega) (by omega) (heap_alloc_new w8 _) (fun k hk e => by have := Kd.R_lt hR k hk; omega))
          have HDE := Aside0.mk (fun (gb : Nat) (v : Value) (W : World) (base : Nat) (hR : Kd.R k40 40 W base (fun _ => True) v l0) (hb : base ≤ W.heap.size) (hh : W.heap[gb]? = some (.cells #[.string a1] 9 (0, 0))) => delete40_calls a1 gb v l0 W base hR hb (by omega) hh)
          have hrg := idxG_range q4 (delN a1 l0)
          unfold insS atG
          generalize delN a1 l0 = L at *
          by_cases hneg : idxG q4 L < 0
          · rw [if_pos hneg, Int.toNat_natCast]
            have dn : decide (idxG q4 L < 0) = true := decide_eq_true hneg
            generalize idxG q4 L = J at *
            clear hr0 hc0 ht A1 A2 A3 hl hs hdl hrg hneg
            go_enter Tryd.func13, Tryd.ntmps13
            go_wp2_with (first
              | (go_at_call 16; refine HRI.out.mono ?_; rintro e w1 ⟨rfl, hb⟩; have HB := Aside0.mk hb; clear hb)
              | (go_at_call 17; refine (HFO.out _ HB.out).mono ?_; rintro e w2 ⟨rfl, hb⟩; replace HB := Aside0.mk (below_step HB.out hb); clear hb)
              | (go_at_call 37; refine (HFI.out _).mono ?_; rintro e w3 ⟨rfl, hb⟩; replace HB := Aside0.mk (below_step HB.out hb); clear hb))
            obtain ⟨W4, hW4, h10, h11, hg, hb4⟩ := two_boxes w3 (.cells #[.string q1, .int .i64 q2, .string q3] 57 (0, 0)) (.cells #[.int .i64 q4] 3 (0, 0)) w.heap.size w HB.out.4 HB.out
            have HB4 := Aside0.mk hb4
            have HW4 := Aside0.mk (show w.heap.size ≤ W4.heap.size from hb4.4)
            rw [← hW4]
            have HG := Aside0.mk (⟨Nat.le_succ _, hg⟩ : w3.heap.size ≤ w3.heap.size + 1 ∧ w3.heap.size + 1 < W4.heap.size)
            have H10 := Aside0.mk h10
            have H11 := Aside0.mk h11
            clear h10 h11 hg hb4 hW4
            generalize hg11 : w3.heap.size + 1 = g11 at H11 HG ⊢
            generalize hg10 : w3.heap.size = g10 at H10 HG ⊢
            clear hg11 hg10
            go_wp2_with (first
              | (go_at_call 39; (with_reducible refine (clone40_calls A0 c0 l0 _ (Kd.C_below HC.out HB4.out) (by have := HL.out; omega)).mono ?_); rintro e w5 ⟨v5, rfl, hR5, hb5⟩; have HR5 := Aside0.mk hR5; have HB5 := Aside0.mk hb5; clear hR5 hb5)
              | (go_at_call 40; (with_reducible refine (named_calls a1 _).mono ?_); rintro e w6 ⟨gb, rfl, hgb, hh6, hb6⟩; have HH6 := Aside0.mk hh6; have HR6 := Aside0.mk (Kd.R_below HR5.out hb6); have HB6 := Aside0.mk (near HB5.out (Nat.le_refl _) hb6); clear hgb hh6 hb6)
              | (go_at_call 38; (with_reducible refine (HDE.out gb v5 _ W4.heap.size HR6.out HB6.out.4 HH6.out).mono ?_); rintro e w7 ⟨v7, rfl, hR7, hb7⟩; obtain ⟨A7, c7, rfl, hc7, hC7⟩ := Kd.R_reads hR7; have HR7 := Aside0.mk hR7; have HC7 := Aside0.mk hC7; have HB7 := Aside0.mk (below_tr HB6.out hb7); have H117 := Aside0.mk ((HB7.out.block g11 HG.out.2).trans H11.out); have hz : w7.cell? ⟨g10, 2, none⟩ = some (.string q3) := (HB7.out.cell (p := ⟨g10, 2, none⟩) (Nat.lt_of_le_of_lt HG.out.1 HG.out.2)).trans ((blk_cell H10.out 2).trans rfl); clear hR7 hC7 hc7 hb7)
              | (go_at_call 41; (with_reducible refine (HIG.out g11 A7 c7 _ HC7.out H117.out).mono ?_); rintro e w8 ⟨rfl, hb8⟩; have HR8 := Aside0.mk (Kd.R_below HR7.out hb8); have HB8 := Aside0.mk (near HB7.out (Nat.le_refl _) hb8); clear hb8; clear hz)
              | (go_at_call 43; (with_reducible refine (HIN.out L.length (Nat.le_refl _) _ w8 W4.heap.size HR8.out HB8.out.4).mono ?_); rintro e w9 ⟨v9, rfl, hR9, hb9⟩; have HR9 := Aside0.mk hR9; have HB9 := Aside0.mk (below_tr (HB8.out.alloc HB8.out.4 _) hb9); clear hR9 hb9))
            go_ret2
            exact ⟨_, rfl, Kd.R_lower HR9.out HW4.out, far_step HB4.out HW4.out HB9.out⟩
          · rw [if_neg hneg]
            obtain ⟨J, hJ⟩ : ∃ J : Nat, idxG q4 L = (J : Int) := ⟨(idxG q4 L).toNat, by omega⟩
            have dn : decide (idxG q4 L < 0) = false := decide_eq_false hneg
            have HJ := Aside0.mk (show J ≤ L.length by omega)
            rw [hJ] at dn HIG ⊢
            rw [Int.toNat_natCast]
            clear hr0 hc0 ht A1 A2 A3 hl hs hdl hrg hneg hJ
            go_enter Tryd.func13, Tryd.ntmps13
            go_wp2_with (first
              | (go_at_call 16; refine HRI.out.mono ?_; rintro e w1 ⟨rfl, hb⟩; have HB := Aside0.mk hb; clear hb)
              | (go_at_call 17; refine (HFO.out _ HB.out).mono ?_; rintro e w2 ⟨rfl, hb⟩; replace HB := Aside0.mk (below_step HB.out hb); clear hb)
              | (go_at_call 37; refine (HFI.out _).mono ?_; rintro e w3 ⟨rfl, hb⟩; replace HB := Aside0.mk (below_step HB.out hb); clear hb))
            obtain ⟨W4, hW4, h10, h11, hg, hb4⟩ := two_boxes w3 (.cells #[.string q1, .int .i64 q2, .string q3] 57 (0, 0)) (.cells #[.int .i64 q4] 3 (0, 0)) w.heap.size w HB.out.4 HB.out
            have HB4 := Aside0.mk hb4
            have HW4 := Aside0.mk (show w.heap.size ≤ W4.heap.size from hb4.4)
            rw [← hW4]
            have HG := Aside0.mk (⟨Nat.le_succ _, hg⟩ : w3.heap.size ≤ w3.heap.size + 1 ∧ w3.heap.size + 1 < W4.heap.size)
            have H10 := Aside0.mk h10
            have H11 := Aside0.mk h11
            clear h10 h11 hg hb4 hW4
            generalize hg11 : w3.heap.size + 1 = g11 at H11 HG ⊢
            generalize hg10 : w3.heap.size = g10 at H10 HG ⊢
            clear hg11 hg10
            go_wp2_with (first
              | (go_at_call 39; (with_reducible refine (clone40_calls A0 c0 l0 _ (Kd.C_below HC.out HB4.out) (by have := HL.out; omega)).mono ?_); rintro e w5 ⟨v5, rfl, hR5, hb5⟩; have HR5 := Aside0.mk hR5; have HB5 := Aside0.mk hb5; clear hR5 hb5)
              | (go_at_call 40; (with_reducible refine (named_calls a1 _).mono ?_); rintro e w6 ⟨gb, rfl, hgb, hh6, hb6⟩; have HH6 := Aside0.mk hh6; have HR6 := Aside0.mk (Kd.R_below HR5.out hb6); have HB6 := Aside0.mk (near HB5.out (Nat.le_refl _) hb6); clear hgb hh6 hb6)
              | (go_at_call 38; (with_reducible refine (HDE.out gb v5 _ W4.heap.size HR6.out HB6.out.4 HH6.out).mono ?_); rintro e w7 ⟨v7, rfl, hR7, hb7⟩; obtain ⟨A7, c7, rfl, hc7, hC7⟩ := Kd.R_reads hR7; have HR7 := Aside0.mk hR7; have HC7 := Aside0.mk hC7; have HB7 := Aside0.mk (below_tr HB6.out hb7); have H117 := Aside0.mk ((HB7.out.block g11 HG.out.2).trans H11.out); have hz : w7.cell? ⟨g10, 2, none⟩ = some (.string q3) := (HB7.out.cell (p := ⟨g10, 2, none⟩) (Nat.lt_of_le_of_lt HG.out.1 HG.out.2)).trans ((blk_cell H10.out 2).trans rfl); clear hR7 hC7 hc7 hb7)
              | (go_at_call 41; (with_reducible refine (HIG.out g11 A7 c7 _ HC7.out H117.out).mono ?_); rintro e w8 ⟨rfl, hb8⟩; have HR8 := Aside0.mk (Kd.R_below HR7.out hb8); have HB8 := Aside0.mk (near HB7.out (Nat.le_refl _) hb8); clear hb8; clear hz)
              | (go_at_call 43; (with_reducible refine (HIN.out J HJ.out _ w8 W4.heap.size HR8.out HB8.out.4).mono ?_); rintro e w9 ⟨v9, rfl, hR9, hb9⟩; have HR9 := Aside0.mk hR9; have HB9 := Aside0.mk (below_tr (HB8.out.alloc HB8.out.4 _) hb9); clear hR9 hb9))
            go_ret2
            exact ⟨_, rfl, Kd.R_lower HR9.out HW4.out, far_step HB4.out HW4.out HB9.out⟩
      · rw [if_neg hl] at H
        cases H
    · rw [if_neg he] at H
      simp only [Option.some.injEq, Prod.mk.injEq] at H
      obtain ⟨rfl, rfl⟩ := H
      have heb : (e0 == 0) = false := beq_eq_false_iff_ne.2 he
      have HE := Aside0.mk he
      clear hr0 hc0 ht A1 A2
      go_enter Tryd.func13, Tryd.ntmps13
      go_wp2_with (first
        | (go_at_call 16; refine HRI.out.mono ?_; rintro e w1 ⟨rfl, hb⟩; have HB := Aside0.mk hb; clear hb)
        | (go_at_call 17; refine (HFO.out _ HB.out).mono ?_; rintro e w2 ⟨rfl, hb⟩; replace HB := Aside0.mk (below_step HB.out hb); clear hb))
      go_ret2
      exact ⟨_, rfl, Kd.R_nil _ _ _ _ _, HB.out⟩
end Go.Proofs.YtefhngadeimklaaDoor.Q
end
section
set_option linter.unusedSimpArgs false
set_option linter.unusedVariables false
namespace Go.Proofs.YtefhngadeimklaaDoor.Q
open Go.RowKit Go.Proofs.YtefhngadeimklaaDoorW.PrintWords Go.Proofs.YtefhngadeimklaaDoorW.PrintLast
theorem showB_size (b u : Int) : (showB b u).size = (showL b.toNat u.toNat).length := by
  show (showL b.toNat u.toNat).toArray.size = _
  rw [List.size_toArray]
theorem showB_small (b u : Int) (hb : 2 ≤ b) (hu : 0 ≤ u ∧ u < 4294967296) : 1 ≤ (showB b u).size ∧ (showB b u).size ≤ 32 := by
  rw [showB_size]
  exact ⟨showL_pos _ _, showL_len b.toNat (by omega) 31 u.toNat (by omega)⟩
theorem bytes_show (b u : Int) : bytesOf (showB b u) = showI b u := rfl
theorem num_ch (r : Int) (h : 0 ≤ r ∧ r < 36) : numF (chI r) = r := by
  unfold numF chI
  split <;> split <;> (try split) <;> (try split) <;> omega
theorem val_ch (r b : Int) (h : 0 ≤ r ∧ r < b) (hb : 2 ≤ b ∧ b ≤ 36) : valF (chI r) b = (r, true) := by
  unfold valF
  rw [num_ch r (by omega), if_pos (by omega)]
theorem parL_snoc (b c : Int) (l : List Int) : ∀ n g, parL b (l ++ [c]) n g = (parL b l n g).bind fun p => parL b [c] p.1 p.2 := by
  induction l with
  | nil => intro n g; rfl
  | cons x l ih =>
    intro n g
    rw [List.cons_append, parL_cons, parL_cons]
    by_cases h1 : (valF x b).2 = true
    · rw [if_pos h1, if_pos h1]
      cases g
      · rw [if_neg Bool.false_ne_true, if_neg Bool.false_ne_true]; exact ih _ _
      · rw [if_pos rfl, if_pos rfl]; exact ih _ _
    · rw [if_neg h1, if_neg h1]; rfl
theorem par_show (b : Int) (hb : 2 ≤ b ∧ b ≤ 36) (m : Nat) : (m : Int) < 4294967296 → parL b (showI b m) 0 false = some ((m : Int), false) := by
  induction m using Nat.strongRecOn with
  | ind m ih =>
    intro hm
    by_cases h : (m : Int) < b
    · rw [showI_small (by omega) h hb.2, parL_cons, val_ch m b ⟨by omega, h⟩ hb, if_pos rfl, if_neg Bool.false_ne_true]
      show parL b [] (0 * b + (m : Int)) (decide (0 * b + (m : Int) ≥ 4294967296)) = _
      rw [Int.zero_mul, Int.zero_add, decide_eq_false (by omega), parL_nil]
    · have hq : (m : Int) / b = ((m / b.toNat : Nat) : Int) := by
        obtain ⟨x, rfl⟩ := Int.eq_ofNat_of_zero_le (show 0 ≤ b by omega)
        rfl
      have hlt : m / b.toNat < m := Nat.div_lt_self (by omega) (by omega)
      have hdm := Int.mul_ediv_add_emod (m : Int) b
      have hm0 := Int.emod_nonneg (m : Int) (show b ≠ 0 by omega)
      have hm1 := Int.emod_lt_of_pos (m : Int) (show 0 < b by omega)
      rw [showI_big hb.1 hb.2 (by omega), parL_snoc, hq, ih _ hlt (by omega), Option.bind_some, parL_cons, val_ch _ b ⟨hm0, hm1⟩ hb, if_pos rfl, if_neg Bool.false_ne_true]
      rw [← hq]
      have e : (m : Int) / b * b + (m : Int) % b = m := by rw [Int.mul_comm]; exact hdm
      show parL b [] ((m : Int) / b * b + (m : Int) % b) (decide ((m : Int) / b * b + (m : Int) % b ≥ 4294967296)) = _
      rw [e, decide_eq_false (by omega), parL_nil]
theorem par_show' (b u : Int) (hb : 2 ≤ b ∧ b ≤ 36) (hu : 0 ≤ u ∧ u < 4294967296) : parL b (showI b u) 0 false = some (u, false) := by
  obtain ⟨m, rfl⟩ := Int.eq_ofNat_of_zero_le hu.1
  exact par_show b hb m hu.2
theorem ch_big (r : Int) (h : 0 ≤ r) : 48 ≤ chI r := by unfold chI; split <;> omega
theorem show_first (b : Int) (hb : 2 ≤ b ∧ b ≤ 36) (m : Nat) : ∀ c ∈ showI b m, 48 ≤ c := by
  induction m using Nat.strongRecOn with
  | ind m ih =>
    intro c hc
    by_cases h : (m : Int) < b
    · rw [showI_small (by omega) h hb.2] at hc
      rw [List.mem_singleton.1 hc]
      exact ch_big _ (by omega)
    · have hq : (m : Int) / b = ((m / b.toNat : Nat) : Int) := by
        obtain ⟨x, rfl⟩ := Int.eq_ofNat_of_zero_le (show 0 ≤ b by omega)
        rfl
      have hm0 := Int.emod_nonneg (m : Int) (show b ≠ 0 by omega)
      rw [showI_big hb.1 hb.2 (by omega), hq] at hc
      rcases List.mem_append.1 hc with hc | hc
      · exact ih _ (Nat.div_lt_self (by omega) (by omega)) c hc
      · rw [List.mem_singleton.1 hc]
        exact ch_big _ hm0
theorem show_nominus (b u : Int) (hb : 2 ≤ b ∧ b ≤ 36) (hu : 0 ≤ u ∧ u < 4294967296) : ¬ bt (showB b u) 0 = 45 := by
  obtain ⟨m, rfl⟩ := Int.eq_ofNat_of_zero_le hu.1
  have hs := showB_small b m hb.1 hu
  have hl : 0 < (showI b m).length := by rw [← bytes_show, bytesOf_length]; omega
  have h := show_first b hb m ((showI b m)[0]) (List.getElem_mem hl)
  intro he
  rw [← rd_bytesOf, bytes_show] at he
  have : rd (showI b m) 0 = (showI b m)[0] := by simp [rd, List.getD_eq_getElem?_getD, List.getElem?_eq_getElem hl]
  omega
theorem parF_show (b u : Int) (hb : 2 ≤ b ∧ b ≤ 36) (hu : 0 ≤ u ∧ u < 4294967296) : parF (showB b u) b = (u, 0) := by
  have hs := showB_small b u hb.1 hu
  unfold parF
  rw [if_pos hb, if_neg (fun h => show_nominus b u hb hu h.2), if_neg (by omega), bytes_show, par_show' b u hb hu, resF_pos]
theorem bytesOf_cong {s t : ByteArray} (h : s.toList = t.toList) : bytesOf s = bytesOf t := by
  unfold bytesOf
  rw [← ByteArray.toList_eq, ← ByteArray.toList_eq, h]
theorem B_ext {s t : ByteArray} (h : s.toList = t.toList) : s = t := by
  have h2 : bytesOf s = bytesOf t := bytesOf_cong h
  have h3 : s.data.toList = t.data.toList := by
    have hi : ∀ a b : UInt8, (a.toNat : Int) = (b.toNat : Int) → a = b := fun a b e => UInt8.toNat_inj.1 (by omega)
    exact (List.map_inj_right (fun a b e => hi a b e)).1 h2
  cases s; cases t
  congr 1
  exact Array.toList_inj.1 h3
/-- The form of a form is itself. -/
theorem formV_0 (v : ByteArray) : formV 0 v = (v, decide (v.toList = trueL) || decide (v.toList = falseL)) := if_pos rfl
theorem formV_1 (v : ByteArray) : formV 1 v = if (parF v 10).2 = 0 then (showB 10 (parF v 10).1, true) else ((⟨#[]⟩ : ByteArray), false) := by
  unfold formV
  rw [if_neg (by decide), if_pos rfl]
theorem formV_2 (kd : Int) (v : ByteArray) (h0 : ¬ kd = 0) (h1 : ¬ kd = 1) : formV kd v = if (bytesOf v).all okB = true then (v, decide (v.size ≤ 128)) else ((⟨#[]⟩ : ByteArray), false) := by
  unfold formV
  rw [if_neg h0, if_neg h1]
theorem formV_again (kd : Int) (v : ByteArray) (hs : v.size ≤ 140737488351232) (h : (formV kd v).2 = true) : formV kd (formV kd v).1 = formV kd v := by
  by_cases h0 : kd = 0
  · subst h0
    rw [formV_0 v]
    exact formV_0 v
  · by_cases h1 : kd = 1
    · subst h1
      rw [formV_1 v] at h ⊢
      by_cases h2 : (parF v 10).2 = 0
      · have hr := par_range v 10 (by decide) (by omega)
        rw [if_pos h2]
        show formV 1 (showB 10 (parF v 10).1) = _
        rw [formV_1, parF_show 10 _ (by decide) hr]
        rfl
      · rw [if_neg h2] at h
        cases h
    · rw [formV_2 kd v h0 h1] at h ⊢
      by_cases h2 : (bytesOf v).all okB = true
      · rw [if_pos h2]
        show formV kd v = _
        rw [formV_2 kd v h0 h1, if_pos h2]
      · rw [if_neg h2] at h
        cases h
theorem fnd_nm (i : Int) (h : 0 ≤ i ∧ i < 9) : fndF (nmV i) = i := by
  obtain h | h | h | h | h | h | h | h | h : i = 0 ∨ i = 1 ∨ i = 2 ∨ i = 3 ∨ i = 4 ∨ i = 5 ∨ i = 6 ∨ i = 7 ∨ i = 8 := by omega
  all_goals (subst h; kernel_rfl)
theorem nm_fnd (s : ByteArray) (h : 0 ≤ fndF s) : nmV (fndF s) = s := B_ext (fndG_name s 9 0 (Int.le_refl _) h)
theorem fnd_inj {s t : ByteArray} (h : 0 ≤ fndF s) (e : fndF t = fndF s) : t.toList = s.toList := by
  rw [← nm_fnd s h, ← nm_fnd t (by omega), e]
theorem okV_known {last : Int} {x : S40} (h : okV last x = true) : 0 ≤ fndF x.f0 ∧ last < fndF x.f0 := by
  simp only [okV, Bool.and_eq_true, decide_eq_true_eq] at h
  exact ⟨h.1.1.1.1, h.1.1.2⟩
theorem okV_move {last m : Int} {x : S40} (h : okV last x = true) (hm : m < fndF x.f0) : okV m x = true := by
  simp only [okV, Bool.and_eq_true, decide_eq_true_eq] at h ⊢
  exact ⟨⟨⟨h.1.1.1, hm⟩, h.1.2⟩, h.2⟩
theorem right_cons {x : S40} {r : List S40} {last : Int} (h : rightL (x :: r) last = true) : okV last x = true ∧ rightL r (fndF x.f0) = true := by
  rw [rightL, Bool.and_eq_true] at h
  exact h
theorem right_all : ∀ (l : List S40) (last : Int), rightL l last = true → ∀ y ∈ l, last < fndF y.f0
  | [], _, _, y, hy => by cases hy
  | x :: r, last, h, y, hy => by
    obtain ⟨h1, h2⟩ := right_cons h
    have hk := okV_known h1
    rcases List.mem_cons.1 hy with rfl | hy
    · exact hk.2
    · have := right_all r _ h2 y hy
      omega
theorem right_raise : ∀ (l : List S40) (last m : Int), rightL l last = true → (∀ y ∈ l, m < fndF y.f0) → rightL l m = true
  | [], _, _, _, _ => rfl
  | x :: r, last, m, h, hy => by
    obtain ⟨h1, h2⟩ := right_cons h
    rw [rightL, Bool.and_eq_true]
    exact ⟨okV_move h1 (hy x List.mem_cons_self), h2⟩
theorem right_filter (p : S40 → Bool) : ∀ (l : List S40) (last : Int), rightL l last = true → rightL (l.filter p) last = true
  | [], _, _ => rfl
  | x :: r, last, h => by
    obtain ⟨h1, h2⟩ := right_cons h
    have ih := right_filter p r _ h2
    rw [List.filter_cons]
    split
    · rw [rightL, Bool.and_eq_true]
      exact ⟨h1, ih⟩
    · exact right_raise _ _ _ ih (fun y hy => by
        have := right_all r _ h2 y (List.mem_filter.1 hy).1
        have := (okV_known h1).2
        omega)
/-- Those of a variable ahead of n; those behind. -/
def preV (n : Int) (l : List S40) : List S40 := l.filter fun y => decide (fndF y.f0 < n)
def sufV (n : Int) (l : List S40) : List S40 := l.filter fun y => decide (n < fndF y.f0)
theorem preV_lt {n : Int} {l : List S40} : ∀ y ∈ preV n l, fndF y.f0 < n := fun y hy => by simpa using (List.mem_filter.1 hy).2
theorem sufV_lt {n : Int} {l : List S40} : ∀ y ∈ sufV n l, n < fndF y.f0 := fun y hy => by simpa using (List.mem_filter.1 hy).2
theorem filter_none {p : S40 → Bool} {l : List S40} (h : ∀ y ∈ l, p y = false) : l.filter p = [] := List.filter_eq_nil_iff.2 (fun y hy => by rw [h y hy]; exact Bool.false_ne_true)
theorem filter_all' {p : S40 → Bool} {l : List S40} (h : ∀ y ∈ l, p y = true) : l.filter p = l := List.filter_eq_self.2 h
theorem del_split (s : ByteArray) (hs : 0 ≤ fndF s) : ∀ (l : List S40) (last : Int), rightL l last = true → delN s l = preV (fndF s) l ++ sufV (fndF s) l
  | [], _, _ => rfl
  | x :: r, last, h => by
    obtain ⟨h1, h2⟩ := right_cons h
    have hk := okV_known h1
    have ih := del_split s hs r _ h2
    have ha := right_all r _ h2
    rw [delN_cons, preV, sufV, List.filter_cons, List.filter_cons]
    rcases Int.lt_trichotomy (fndF x.f0) (fndF s) with hc | hc | hc
    · rw [if_neg (fun e => by have := fndF_congr e; omega), if_pos (by simpa using hc), if_neg (by simp; omega), ih]
      rfl
    · rw [if_pos (fnd_inj hs hc), if_neg (by simp; omega), if_neg (by simp; omega), ih]
      rfl
    · rw [if_neg (fun e => by have := fndF_congr e; omega), if_neg (by simp; omega), if_pos (by simpa using hc)]
      have e1 : preV (fndF s) r = [] := filter_none (fun y hy => by have := ha y hy; simp; omega)
      have e2 : sufV (fndF s) r = r := filter_all' (fun y hy => by have := ha y hy; simp; omega)
      rw [ih, e1, e2, List.nil_append]
      exact (congrArg (x :: ·) e2.symm).trans (by rw [show r.filter (fun y => decide (fndF y.f0 < fndF s)) = [] from e1]; rfl)
theorem insS_eq (n : Int) (x : S40) (l : List S40) : insS n x l = if idxG n l < 0 then l ++ [x] else l.take (idxG n l).toNat ++ x :: l.drop (idxG n l).toNat := by
  unfold insS atG
  split
  · rw [Int.toNat_natCast, List.take_length, List.drop_length]
  · rfl
theorem insS_cons (n : Int) (x y : S40) (l : List S40) (h : ¬ n < fndF y.f0) : insS n x (y :: l) = y :: insS n x l := by
  have hr := idxG_range n l
  rw [insS_eq, insS_eq, idxG, if_neg h]
  by_cases hn : idxG n l < 0
  · rw [if_pos hn, if_pos hn, if_pos (by omega)]; rfl
  · rw [if_neg hn, if_neg hn, if_neg (by omega), show (idxG n l + 1).toNat = (idxG n l).toNat + 1 by omega, List.take_succ_cons, List.drop_succ_cons]
    rfl
theorem ins_split (n : Int) (x : S40) : ∀ (p q : List S40), (∀ y ∈ p, fndF y.f0 < n) → (∀ y ∈ q, n < fndF y.f0) → insS n x (p ++ q) = p ++ x :: q
  | [], [], _, _ => rfl
  | [], y :: q, _, hq => by
    have h := hq y List.mem_cons_self
    rw [List.nil_append, insS_eq, idxG, if_pos h]
    rfl
  | y :: p, q, hp, hq => by
    have h := hp y List.mem_cons_self
    rw [List.cons_append, insS_cons n x y _ (by omega), ins_split n x p q (fun z hz => hp z (List.mem_cons_of_mem _ hz)) hq]
    rfl
theorem right_insert (n : Int) (x : S40) (hx : okV (-1) x = true) (hn : fndF x.f0 = n) : ∀ (p q : List S40) (last : Int), last < n → (∀ y ∈ p, fndF y.f0 < n) → (∀ y ∈ q, n < fndF y.f0) → rightL (p ++ q) last = true → rightL (p ++ x :: q) last = true
  | [], q, last, hl, _, hq, h => by
    rw [List.nil_append, rightL, Bool.and_eq_true]
    exact ⟨okV_move hx (by omega), right_raise q _ _ h (by rw [hn]; exact hq)⟩
  | y :: p, q, last, hl, hp, hq, h => by
    obtain ⟨h1, h2⟩ := right_cons h
    rw [List.cons_append, rightL, Bool.and_eq_true]
    exact ⟨h1, right_insert n x hx hn p q _ (hp y List.mem_cons_self) (fun z hz => hp z (List.mem_cons_of_mem _ hz)) hq h2⟩
def setF (l : List S40) (s v : ByteArray) : List S40 × Int :=
  if rightF l = true then (if (formF s v).2 = 0 then (if (formF s v).1.toList = (stV (fndF s)).toList then (delN s l, 0) else (insS (fndF s) ⟨s, (formF s v).1⟩ (delN s l), 0)) else (([] : List S40), (formF s v).2)) else (([] : List S40), 1)
theorem formF_ok {s v : ByteArray} (h : (formF s v).2 = 0) : 0 ≤ fndF s ∧ (formV (kdV (fndF s)) v).2 = true ∧ (formF s v).1 = (formV (kdV (fndF s)) v).1 := by
  unfold formF at h ⊢
  split at h <;> rename_i h0
  · split at h <;> rename_i h1
    · rw [if_pos h0, if_pos h1]; exact ⟨h0, h1, rfl⟩
    · exact absurd h (by decide)
  · exact absurd h (by decide)
theorem okV_new {s v : ByteArray} (hs : v.size ≤ 140737488351232) (h : (formF s v).2 = 0) (hd : ¬ (formF s v).1.toList = (stV (fndF s)).toList) : okV (-1) ⟨s, (formF s v).1⟩ = true := by
  obtain ⟨h0, h1, h2⟩ := formF_ok h
  have h3 := formV_again _ v hs h1
  rw [h2] at hd ⊢
  simp only [okV, Bool.and_eq_true, decide_eq_true_eq, Bool.not_eq_true', decide_eq_false_iff_not]
  rw [h3]
  exact ⟨⟨⟨⟨h0, h1⟩, by omega⟩, rfl⟩, hd⟩
theorem setF_right (l : List S40) (s v : ByteArray) (hs : v.size ≤ 140737488351232) (h : (setF l s v).2 = 0) : rightF (setF l s v).1 = true := by
  unfold setF at h ⊢
  split at h <;> rename_i h0
  · rw [if_pos h0]
    split at h <;> rename_i h1
    · rw [if_pos h1]
      split at h <;> rename_i h2
      · rw [if_pos h2]; exact right_filter _ l _ h0
      · rw [if_neg h2]
        have hf := formF_ok h1
        have hsp := del_split s hf.1 l _ h0
        show rightL (insS _ _ _) (-1) = true
        rw [hsp, ins_split _ _ _ _ preV_lt sufV_lt]
        exact right_insert _ _ (okV_new hs h1 h2) rfl _ _ _ (by have h9 : 0 ≤ fndF s := hf.1; show -1 < fndF s; omega) preV_lt sufV_lt (by rw [← hsp]; exact right_filter _ l _ h0)
    · exact absurd h h1
  · exact absurd h (by decide)
end Go.Proofs.YtefhngadeimklaaDoor.Q
end
section
namespace Go.Proofs.YtefhngadeimklaaDoor.Q
open Go.RowKit Go.Proofs.YtefhngadeimklaaDoorW.PrintWords Go.Proofs.YtefhngadeimklaaDoorW.PrintLast Go.Proofs.YtefhngadeimklaaDoorW.PrintMore
set_option linter.unusedVariables false
set_option linter.unusedSimpArgs false

attribute [local go_sem] max2_int min2_int max_two min_two max_three min_three max_four min_four
/-! ### tinderref19_Names: function 22 -/
def tinderref19_Names.l0 : Nat → List ByteArray → Int → Option (List ByteArray)
  | 0, _, _ => none
  | k + 1, x1, x2 => if x2 < 9 then ((tinderref19_Variable.f x2).bind fun bt23001 => (if x1.length < 8796093022208 then (tinderref19_Names.l0 k (x1 ++ [bt23001.1]) (wrap64 (x2 + 1))) else (none))) else (some x1)
def tinderref19_Names.f (k : Nat)  : Option (List ByteArray) := tinderref19_Names.l0 k ([] : List ByteArray) 0
theorem tinderref19_Names.mono_l : ∀ k, (∀ y0 y1, LeO (tinderref19_Names.l0 k y0 y1) (tinderref19_Names.l0 (k + 1) y0 y1))
  | 0 => fun _ _ r h => by simp [tinderref19_Names.l0] at h
  | k + 1 => by
    have ih0 := tinderref19_Names.mono_l k
    · intro y0 y1
      unfold tinderref19_Names.l0
      repeat' first
      | (with_reducible exact ih0 _ _)
      | (with_reducible exact LeO.refl _)
      | (with_reducible exact LeO.none _)
      | (with_reducible refine LeO.ite ?_ ?_)
      | (with_reducible refine LeO.bind ?_ (fun _ => ?_))
      | exact ih0 _ _
      | exact LeO.none _
      | refine LeO.ite ?_ ?_
      | refine LeO.bind ?_ (fun _ => ?_)
theorem tinderref19_Names.mono : ∀ k, LeO (tinderref19_Names.f k ) (tinderref19_Names.f (k + 1) ) := by
  intro  k
  have ih0 := tinderref19_Names.mono_l k
  unfold tinderref19_Names.f
  repeat' first
      | (with_reducible exact ih0 _ _)
      | (with_reducible exact LeO.refl _)
      | (with_reducible exact LeO.none _)
      | (with_reducible refine LeO.ite ?_ ?_)
      | (with_reducible refine LeO.bind ?_ (fun _ => ?_))
      | exact ih0 _ _
      | exact LeO.none _
      | refine LeO.ite ?_ ?_
      | refine LeO.bind ?_ (fun _ => ?_)
set_option maxHeartbeats 8000000 in
set_option maxRecDepth 100000 in
theorem tinderref19_Names.calls (k : Nat)  (r : List ByteArray) (w : World) (h : tinderref19_Names.f k  = some r) :
    Calls Tryd.prog 22 #[] w fun e w' => ∃ v0_ : Value, e = .returned (v0_) ∧ Kd.R Kd.string 9 w' w.heap.size (fun _ => True) v0_ r ∧ Below w.heap.size w w' := by
  have HB := Aside0.mk (Below.refl w.heap.size w)
  have H : (tinderref19_Names.l0 k ([] : List ByteArray) 0) = some r := h
  clear h
  have H' := Aside0.mk H
  clear H
  go_enter Tryd.func22, Tryd.ntmps22
  go_wp2
  go_loopg [1, 2] k (fun kq v1 v2 w' => ∃ (x1_1 : List ByteArray) (x2_1 : Int), v2 = .int .i64 x2_1 ∧ Aside0 (tinderref19_Names.l0 kq x1_1 x2_1 = some r) ∧ Aside0 (kq ≤ k) ∧ Aside0 (Kd.R Kd.string 9 w' w.heap.size (fun _ => True) v1 x1_1) ∧ Aside0 (Below w.heap.size w w'))
  case atStart => exact ⟨(([] : List ByteArray)), (0), (by first | rfl | (simp; done) | (simp [*]; done)), H', ⟨Nat.le_refl _⟩, ⟨by first | exact Kd.R_nil _ _ _ _ _ | exact Kd.N_nil _ _ _ _ _ | exact Kd.V_nil _ _ _ _ _ | exact Kd.Q_nil _ _ _ _ _ | exact Kd.S_nil _ _ _ _ _⟩, ⟨by repeat (first | (with_reducible first | exact HB.out | apply below_alloc | apply pw_below_drewN | apply below_drew1) | exact HB.out)⟩⟩
  case round =>
    clear H'
    obtain ⟨x1_1, x2_1, rfl, HA, HK1, HO_1, HB⟩ := hrel
    cases gk with
    | zero => exact absurd HA.out (by simp [tinderref19_Names.l0])
    | succ k1 =>
      have H := HA.out
      clear HA
      simp only [tinderref19_Names.l0] at H
      by_cases c1 : x2_1 < 9
      · rw [if_pos c1] at H
        have c1b0 : decide (x2_1 < 9) = true := decide_eq_true c1
        clear c1
        replace H := Option.bind_eq_some_iff.mp H
        obtain ⟨⟨t23001, t23002, t23003⟩, A20, H⟩ := H
        replace H : (if x1_1.length < 8796093022208 then (tinderref19_Names.l0 k1 (x1_1 ++ [t23001]) (wrap64 (x2_1 + 1))) else (none)) = some r := H
        have A2 := Aside0.mk A20
        clear A20
        by_cases c3 : x1_1.length < 8796093022208
        · rw [if_pos c3] at H
          have LMc3 := Aside0.mk c3
          clear c3
          obtain ⟨y23004, hy23004⟩ : ∃ y_ : List ByteArray, y_ = (x1_1 ++ [t23001]) := ⟨_, rfl⟩
          replace H : (tinderref19_Names.l0 k1 y23004 (wrap64 (x2_1 + 1))) = some r := by first | (rw [hy23004]; with_reducible exact H) | (have H2_ := (Option.bind_some _ _).symm.trans H; rw [hy23004]; with_reducible exact H2_) | (have H2_ := (Option.bind_some _ _).symm.trans H; with_reducible exact H2_) | with_reducible exact H | (rw [hy23004]; exact H) | exact H
          have Ny23004 := Aside0.mk hy23004
          clear hy23004
          have H' := Aside0.mk H
          clear H
          go_wp2_with (first | ((with_reducible refine gate_callee (f := 47) rfl ?_); refine goesL_ (some 12) rfl rfl Tryd.func47 (by kernel_rfl) rfl #[.int .i64 x2_1] rfl (by (try simp only [List.map_toArray, List.map_cons, List.map_nil]); first | done | rfl | (simp only [List.length_drop, List.length_take]; rfl)) ?_; (with_reducible refine (tinderref19_Variable.calls x2_1 t23001 t23002 t23003 _ A2.out).mono ?_); rintro e w' ⟨rfl, ⟨nd, rfl⟩⟩; refine ⟨_, rfl, ?_⟩) | ((with_reducible refine gate_builtin (b := .append) (xs := #[.tmp 16, .tmp 18]) rfl ?_); at_builtin; refine Kd.R_append Kd.string (w0 := w) w.heap.size rfl (.tmp 16) (.tmp 18) 34 9 (.string ⟨#[]⟩) 16 rfl Tryd.underlying34 info9 rfl (by decide) (by omega) u1 x1_1 t23001 [.string t23001] (fun _ => True) (fun _ => False) rfl rfl ?aP (fun _ hk => hk.elim) ?aF ?aO ?aB ?aS ?aL ?_; (case aP => exact rfl); (case aB => exact (by repeat (first | (with_reducible first | exact HB.out | apply below_alloc | apply pw_below_drewN | apply below_drew1) | exact HB.out))); (case aF => exact (fun _ _ => trivial)); (case aO => exact (by (with_reducible repeat (first | apply Kd.R_alloc | apply Kd.R_drewN | apply Kd.R_drew)); exact HO_1.out)); (case aS => exact (below_size (by repeat (first | (with_reducible first | exact HB.out | apply below_alloc | apply pw_below_drewN | apply below_drew1) | exact HB.out)))); (case aL => have := LMc3.out; omega); intro v23005 w4 ho hb hg hat; rw [← Ny23004.out] at ho; have n0_ := Aside0.mk (hb); have n1_ := Aside0.mk (ho); clear HB; clear HO_1; have HB := n0_; have HO23006 := n1_; clear n0_ n1_; clear ho hb hg hat))
          go_roundg k1
          case measure => have := HK1.out; omega
          case rel => exact ⟨(y23004), (wrap64 (x2_1 + 1)), (by first | rfl | (simp; done) | (simp [*]; done)), H', ⟨by have := HK1.out; omega⟩, ⟨by (with_reducible repeat (first | apply Kd.R_alloc | apply Kd.R_drewN | apply Kd.R_drew)); exact HO23006.out⟩, ⟨by repeat (first | (with_reducible first | exact HB.out | apply below_alloc | apply pw_below_drewN | apply below_drew1) | exact HB.out)⟩⟩
        · rw [if_neg c3] at H
          exact absurd H (by simp)
      · rw [if_neg c1] at H
        have c1b0 : decide (x2_1 < 9) = false := decide_eq_false c1
        clear c1
        obtain rfl := Option.some.inj H
        go_wp2
        go_ret
        exact ⟨_, by first | rfl | (simp [errW_none, errW_some] <;> rfl) | (simp [*, errW_none, errW_some] <;> rfl), by (with_reducible repeat (first | apply Kd.R_alloc | apply Kd.R_drewN | apply Kd.R_drew)); exact HO_1.out, by repeat (first | (with_reducible first | exact HB.out | apply below_alloc | apply pw_below_drewN | apply below_drew1) | exact HB.out)⟩

end Go.Proofs.YtefhngadeimklaaDoor.Q
end
section
namespace Go.Proofs.YtefhngadeimklaaDoor.Q
open Go.RowKit Go.Proofs.YtefhngadeimklaaDoorW.PrintWords Go.Proofs.YtefhngadeimklaaDoorW.PrintLast Go.Proofs.YtefhngadeimklaaDoorW.PrintMore
set_option linter.unusedVariables false
set_option linter.unusedSimpArgs false

attribute [local go_sem] max2_int min2_int max_two min_two max_three min_three max_four min_four
/-! ### vars_Names: function 21 -/
def vars_Names.l0 : Nat → List ByteArray → List (S57) → Int → Int → Option (List ByteArray)
  | 0, _, _, _, _ => none
  | k + 1, x1, x4, x5, x6 => if x6 < x5 then (if 0 ≤ x6 then (if x6 < (x4.length : Int) then (if x1.length < 8796093022208 then (vars_Names.l0 k (x1 ++ [(rd_T57 x4 x6).f0]) x4 x5 (wrap64 (x6 + 1))) else (none)) else (none)) else (none)) else (some x1)
def vars_Names.f (k : Nat)  : Option (List ByteArray) := (vars_all.f).bind fun t22001 => (vars_Names.l0 k ([] : List ByteArray) t22001 (t22001.length : Int) 0)

end Go.Proofs.YtefhngadeimklaaDoor.Q
end
section
namespace Go.Proofs.YtefhngadeimklaaDoor.Q
open Go.RowKit Go.Proofs.YtefhngadeimklaaDoorW.PrintWords Go.Proofs.YtefhngadeimklaaDoorW.PrintLast Go.Proofs.YtefhngadeimklaaDoorW.PrintMore
attribute [local go_sem] max2_int min2_int max_two min_two max_three min_three max_four min_four
set_option linter.unusedVariables false
def limS : ByteArray := ⟨#[98, 111, 111, 116, 45, 108, 105, 109, 105, 116]⟩
def tinderlaw19_alive.f : Option Bool := some true
theorem par_007 : parF (⟨#[48, 48, 55]⟩ : ByteArray) 10 = (7, 0) := by kernel_rfl
theorem show_7 : showB 10 7 = ⟨#[55]⟩ := by
  unfold showB
  rw [showL_small (by decide)]
  rfl
theorem find_lim : vars_find.f 20 (⟨#[98, 111, 111, 116, 45, 108, 105, 109, 105, 116]⟩ : ByteArray) = some (⟨#[98, 111, 111, 116, 45, 108, 105, 109, 105, 116]⟩, 1, ⟨#[53, 48, 48, 48]⟩, 3, true) := by kernel_rfl
theorem right_nil : vars_Right.f 5 [] = some true := by kernel_rfl
theorem form_7 : vars_Form.f 100 (⟨#[98, 111, 111, 116, 45, 108, 105, 109, 105, 116]⟩ : ByteArray) (⟨#[48, 48, 55]⟩ : ByteArray) = some (⟨#[55]⟩, 0) := by
  have h1 : vars_find.f 100 (⟨#[98, 111, 111, 116, 45, 108, 105, 109, 105, 116]⟩ : ByteArray) = some (⟨#[98, 111, 111, 116, 45, 108, 105, 109, 105, 116]⟩, 1, ⟨#[53, 48, 48, 48]⟩, 3, true) := by kernel_rfl
  have h2 : digit_Parse.f 100 (⟨#[48, 48, 55]⟩ : ByteArray) 10 = some (7, 0) := by rw [parse_eq _ _ _ (by decide) (by decide), par_007]
  have h3 : digit_Show.f 7 10 = some (⟨#[55]⟩, 0) := by
    unfold digit_Show.f
    rw [if_pos (by decide), if_pos rfl, show_7]
  unfold vars_Form.f vars_variable_form.f
  rw [h1, Option.bind_some, if_pos rfl, if_neg (by decide), if_pos rfl, h2, Option.bind_some, if_pos rfl, h3]
  rfl
theorem blk_keep {n i : Nat} {w w1 : World} {o : Obj} (hb : Below n w w1) (hi : i < n) (h : w.heap[i]? = some o) : w1.heap[i]? = some o := by rw [hb.block _ hi]; exact h
theorem two_get (w : World) (o o2 : Obj) : ((w.alloc o).alloc o2).heap[w.heap.size]? = some o := by
  unfold World.alloc
  simp [Array.getElem?_push]
theorem size_one (w : World) (o : Obj) : (w.alloc o).heap.size = w.heap.size + 1 := by
  unfold World.alloc
  simp
theorem size_two (w : World) (o o2 : Obj) : ((w.alloc o).alloc o2).heap.size = w.heap.size + 2 := by rw [size_one, size_one]
theorem get_one (w : World) (o : Obj) : (w.alloc o).heap[w.heap.size]? = some o := by
  unfold World.alloc
  simp
theorem C_one40 (W : World) (b : Nat) (x : S40) (h : W.heap[b]? = some (.cells #[.string x.f0, .string x.f1] 40 (0, 0))) : Kd.C k40 W (some ⟨b, 0, none⟩) 1 [x] := by
  refine ⟨rfl, by decide, fun _ => ⟨_, rfl, fun j p hj => ?_⟩⟩
  obtain ⟨hl, hp⟩ := List.getElem?_eq_some_iff.1 hj
  obtain rfl : j = 0 := by simpa using hl
  obtain rfl : x = p := hp
  refine ⟨_, rfl, k40_mk W x, fun j u hu => ?_⟩
  have := blk_cell h j
  rw [show (⟨b, 0, none⟩ : Addr).add (0 * k40.sz + j) = ⟨b, j, none⟩ from by rw [Nat.zero_mul, Nat.zero_add]; unfold Addr.add; split <;> simp_all]
  rw [this]
  simpa using hu
set_option maxHeartbeats 4000000 in
set_option maxRecDepth 100000 in
theorem setSeven_calls (w : World) (ht : Tabs w) :
    Calls Tryd.prog 13 #[.slice none 0 0, .string ⟨#[98, 111, 111, 116, 45, 108, 105, 109, 105, 116]⟩, .string ⟨#[48, 48, 55]⟩] w fun e w' => ∃ v, e = .returned (.tuple #[v, .int .i64 0]) ∧ Kd.R k40 40 w' w.heap.size (fun _ => True) v [⟨⟨#[98, 111, 111, 116, 45, 108, 105, 109, 105, 116]⟩, ⟨#[55]⟩⟩] ∧ Below w.heap.size w w' := by
  have hu57 := Tryd.underlying57
  have HT := Aside0.mk ht
  have HRI := Aside0.mk (fun (W : World) (hT : Tabs W) => (show Calls Tryd.prog 16 #[.slice none 0 0] W (fun e w' => e = .returned (.bool true) ∧ Below W.heap.size W w') from vars_Right.calls 5 none 0 [] true W hT (Kd.C_nil _ _) (Nat.le_refl _) right_nil))
  have HFM := Aside0.mk (fun (W : World) (hT : Tabs W) => vars_Form.calls 100 _ _ _ _ W hT form_7)
  have HFD := Aside0.mk (fun (W : World) => vars_find.calls 20 _ _ _ _ _ _ W find_lim)
  have HB := Aside0.mk (Below.refl w.heap.size w)
  clear ht
  go_enter Tryd.func13, Tryd.ntmps13
  go_wp2_with (first
    | (go_at_call 16; (with_reducible refine (HRI.out _ HT.out).mono ?_); rintro e w1 ⟨rfl, hb⟩; have HB := Aside0.mk hb; have HT := Aside0.mk (HT.out.below hb); clear hb)
    | (go_at_call 17; (with_reducible refine (HFM.out _ HT.out).mono ?_); rintro e w2 ⟨rfl, hb⟩; have HB := Aside0.mk (below_step HB.out hb); clear hb)
    | (go_at_call 39; (with_reducible refine (cloneNil_calls _).mono ?_); rintro e w4 ⟨rfl, hb⟩; have BK := Aside0.mk (show w4.heap[w3.heap.size]? = some (.cells #[.string ⟨#[98, 111, 111, 116, 45, 108, 105, 109, 105, 116]⟩, .int .i64 1, .string ⟨#[53, 48, 48, 48]⟩] 57 (0, 0)) from by rw [hb.block _ (by rw [size_two]; omega)]; exact two_get _ _ _); have HS := Aside0.mk (show w3.heap.size < w4.heap.size from Nat.lt_of_lt_of_le (by rw [size_two]; omega) hb.size); have HB := Aside0.mk (below_step (below_alloc (below_alloc HB.out _) _) hb); clear hb)
    | (go_at_call 40; (with_reducible refine (named_calls _ _).mono ?_); rintro e w5 ⟨gb, rfl, _, _, hb⟩; have BK := Aside0.mk (blk_keep hb HS.out BK.out); have HS := Aside0.mk (Nat.lt_of_lt_of_le HS.out hb.size); have HB := Aside0.mk (below_step HB.out hb); clear hb)
    | (go_at_call 38; (with_reducible refine (deleteNil_calls _ _).mono ?_); rintro e w6 ⟨rfl, hb⟩; have BK := Aside0.mk (blk_keep hb HS.out BK.out); have HB := Aside0.mk (below_step HB.out hb); clear hb; have hz0 := (blk_cell BK.out 0).trans rfl; have hz1 := (blk_cell BK.out 1).trans rfl; have hz2 := (blk_cell BK.out 2).trans rfl; have hf2 := blk_frozen BK.out 2)
    | (go_at_call 41; (with_reducible refine (indexNil_calls _ _).mono ?_); rintro e w7 ⟨rfl, hb⟩; have HB := Aside0.mk (below_step HB.out hb); clear hb)
    | (go_at_call 43; (with_reducible refine (insertNil_calls _ _ _ (C_one40 _ _ ⟨⟨#[98, 111, 111, 116, 45, 108, 105, 109, 105, 116]⟩, ⟨#[55]⟩⟩ ?hC)).mono ?_); (case hC => exact get_one _ _); rintro e w8 ⟨v, rfl, hr, hb⟩; have HR := Aside0.mk (Kd.R_lower hr (below_size (below_alloc HB.out _))); have HB := Aside0.mk (below_step (below_alloc HB.out _) hb); clear hb hr)
    | (go_at_call 37; (with_reducible refine (HFD.out _).mono ?_); rintro e w3 ⟨rfl, hb⟩; have HB := Aside0.mk (below_step HB.out hb); clear hb))
  go_ret2
  exact ⟨_, rfl, HR.out, HB.out⟩
set_option maxHeartbeats 2000000 in
set_option maxRecDepth 100000 in
theorem tinderlaw19_alive.calls (r : Bool) (w : World) (ht : Tabs w) (h : tinderlaw19_alive.f = some r) :
    Calls Tryd.prog 11 #[] w fun e w' => e = .returned (.bool r) ∧ Below w.heap.size w w' := by
  obtain rfl := Option.some.inj h
  have hu40 := Tryd.underlying40
  have HI := Aside0.mk (setSeven_calls w ht)
  have e1 : ((⟨#[98, 111, 111, 116, 45, 108, 105, 109, 105, 116]⟩ : ByteArray).toList == (⟨#[98, 111, 111, 116, 45, 108, 105, 109, 105, 116]⟩ : ByteArray).toList) = true := by rw [beq_iff_eq]
  clear ht h
  go_enter Tryd.func11, Tryd.ntmps11
  go_wp2_with (first
    | (go_at_call 13; refine HI.out.mono ?_; rintro e w1 ⟨v, rfl, hr, hb⟩; obtain ⟨A, c, rfl, hc, hC⟩ := Kd.R_reads hr; obtain ⟨ad, eA, hx0, hx1⟩ := at_T40 hC 0 (by decide) (by decide); cases eA; replace hx0 : w1.cell? ad = some (.string ⟨#[98, 111, 111, 116, 45, 108, 105, 109, 105, 116]⟩) := hx0; replace hx1 : w1.cell? ⟨ad.block, ad.off + 1, none⟩ = some (.string ⟨#[55]⟩) := hx1; have HB1 := Aside0.mk hb; clear hb hr hC hc))
  go_ret
  exact ⟨rfl, HB1.out⟩
end Go.Proofs.YtefhngadeimklaaDoor.Q
end
section
namespace Go.Proofs.YtefhngadeimklaaDoor.Q
open Go.RowKit Go.Proofs.YtefhngadeimklaaDoorW.PrintWords Go.Proofs.YtefhngadeimklaaDoorW.PrintLast Go.Proofs.YtefhngadeimklaaDoorW.PrintMore
set_option linter.unusedVariables false
set_option linter.unusedSimpArgs false

attribute [local go_sem] max2_int min2_int max_two min_two max_three min_three max_four min_four
/-! ### tinderlaw19_VarsForms: function 4 -/
mutual
def tinderlaw19_VarsForms.j0 : Nat → List ByteArray → List ByteArray → Bool → Option (Bool)
  | 0, _, _, _ => none
  | k + 1, x13, x14, x66 => if x66 = true then (some false) else (tinderlaw19_VarsForms.l0 k x13 x14 0)
def tinderlaw19_VarsForms.l0 : Nat → List ByteArray → List ByteArray → Int → Option (Bool)
  | 0, _, _, _ => none
  | k + 1, x13, x14, x15 => if x15 < (x13.length : Int) then (if 0 ≤ x15 then (if x15 < (x14.length : Int) then (if (rdOf ByteArray.empty x13 x15).toList = (rdOf ByteArray.empty x14 x15).toList then (tinderlaw19_VarsForms.l0 k x13 x14 (wrap64 (x15 + 1))) else (some false)) else (none)) else (none)) else (some true)
end
def tinderlaw19_VarsForms.f (k : Nat) (a0 : ByteArray) (a1 : ByteArray) : Option (Bool) := (tinderlaw19_alive.f).bind fun t5001 => (if t5001 = true then ((vars_Form.f k a0 a1).bind fun bt5002 => ((tinderref19_Form.f k a0 a1).bind fun bt5004 => ((vars_Default.f k a0).bind fun bt5006 => ((tinderref19_Default.f k a0).bind fun bt5008 => ((vars_Names.f k).bind fun t5010 => ((tinderref19_Names.f k).bind fun t5013 => (if bt5002.1.toList = bt5004.1.toList then (if bt5002.2 = bt5004.2 then (if bt5006.1.toList = bt5008.1.toList then (if bt5006.2 = bt5008.2 then (tinderlaw19_VarsForms.j0 k t5010 t5013 ((t5010.length : Int) != (t5013.length : Int))) else (tinderlaw19_VarsForms.j0 k t5010 t5013 true)) else (tinderlaw19_VarsForms.j0 k t5010 t5013 true)) else (tinderlaw19_VarsForms.j0 k t5010 t5013 true)) else (tinderlaw19_VarsForms.j0 k t5010 t5013 true)))))))) else (some false))

/-- THE ONE PURE STATEMENT of tinderlaw19_VarsForms: yours. -/
def tinderlaw19_VarsForms.Pure : Prop := ∀ (a0 : ByteArray) (a1 : ByteArray), a0.size ≤ 140737488351232 → a1.size ≤ 140737488351232 → ∃ k, tinderlaw19_VarsForms.f k a0 a1 = some true

end Go.Proofs.YtefhngadeimklaaDoor.Q
end
section
namespace Go.Proofs.YtefhngadeimklaaDoor.Q
open Go.RowKit Go.Proofs.YtefhngadeimklaaDoorW.PrintWords Go.Proofs.YtefhngadeimklaaDoorW.PrintLast Go.Proofs.YtefhngadeimklaaDoorW.PrintMore
set_option linter.unusedVariables false
set_option linter.unusedSimpArgs false

attribute [local go_sem] max2_int min2_int max_two min_two max_three min_three max_four min_four
/-! ### tinderref19_value: function 44 -/
def tinderref19_value.l0 : Nat → List (S40) → ByteArray → Int → Option (ByteArray)
  | 0, _, _, _ => none
  | k + 1, x0, x1, x5 => if x5 < (x0.length : Int) then (if 0 ≤ x5 then (if ((rd_T40 x0 x5).f0).toList = x1.toList then (some ((rd_T40 x0 x5).f1)) else (tinderref19_value.l0 k x0 x1 (wrap64 (x5 + 1)))) else (none)) else ((tinderref19_Default.f k x1).bind fun bt45003 => (some bt45003.1))
def tinderref19_value.f (k : Nat) (l0 : List (S40)) (a1 : ByteArray) : Option (ByteArray) := tinderref19_value.l0 k l0 a1 0
set_option maxHeartbeats 8000000 in
set_option maxRecDepth 100000 in
theorem tinderref19_value.calls (k : Nat) (A0 : Option Addr) (c0 : Nat) (l0 : List (S40)) (a1 : ByteArray) (r : ByteArray) (w : World) (hr0 : Kd.C k40 w A0 l0.length l0) (hc0 : l0.length ≤ c0) (h : tinderref19_value.f k l0 a1 = some r) :
    Calls Tryd.prog 44 #[.slice A0 l0.length c0, .string a1] w fun e w' => e = .returned (.string r) ∧ Drawn0 w w' := by
  have HR0 := Aside0.mk hr0
  have HC0 := Aside0.mk hc0
  clear hr0 hc0
  have H : (tinderref19_value.l0 k l0 a1 0) = some r := h
  clear h
  have H' := Aside0.mk H
  clear H
  go_enter Tryd.func44, Tryd.ntmps44
  go_wp2
  go_loopg [5] k (fun kq v5 w' => ∃ (x5_1 : Int), v5 = .int .i64 x5_1 ∧ Aside0 (tinderref19_value.l0 kq l0 a1 x5_1 = some r) ∧ Aside0 (kq ≤ k) ∧ Drawn0 w w')
  case atStart => exact ⟨(0), (by first | rfl | (simp; done) | (simp [*]; done)), H', ⟨Nat.le_refl _⟩, by repeat (first | exact Drawn0.refl _ | apply Drawn0.step)⟩
  case round =>
    clear H'
    try clear p2
    obtain ⟨x5_1, rfl, HA, HK1, ⟨m1, rfl⟩⟩ := hrel
    cases gk with
    | zero => exact absurd HA.out (by simp [tinderref19_value.l0])
    | succ k1 =>
      have H := HA.out
      clear HA
      simp only [tinderref19_value.l0] at H
      by_cases c3 : x5_1 < (l0.length : Int)
      · rw [if_pos c3] at H
        have c3b0 : decide (x5_1 < (l0.length : Int)) = true := decide_eq_true c3
        clear c3
        by_cases c4 : 0 ≤ x5_1
        · rw [if_pos c4] at H
          have c4b0 : decide (0 ≤ x5_1) = true := decide_eq_true c4
          clear c4
          by_cases c5 : ((rd_T40 l0 x5_1).f0).toList = a1.toList
          · rw [if_pos c5] at H
            have c5b0 : (((rd_T40 l0 x5_1).f0).toList == a1.toList) = true := beq_iff_eq.mpr c5
            have c5b1 : (((rd_T40 l0 x5_1).f0).toList != a1.toList) = false := bne_eq_false_iff_eq.mpr c5
            clear c5
            obtain rfl := Option.some.inj H
            have p45001 : 0 ≤ (x5_1 : Int) := of_decide_eq_true (by first | (with_reducible assumption) | assumption)
            have q45001 : x5_1 < (l0.length : Int) := of_decide_eq_true (by first | (with_reducible assumption) | assumption)
            obtain ⟨ad45001, e45001, hx45001_0, hx45001_1⟩ := at_T40 HR0.out x5_1 p45001 q45001
            cases e45001
            replace p45001 := eq_true p45001
            replace q45001 := eq_true q45001
            have p45002 : 0 ≤ (x5_1 : Int) := of_decide_eq_true (by first | (with_reducible assumption) | assumption)
            have q45002 : x5_1 < (l0.length : Int) := of_decide_eq_true (by first | (with_reducible assumption) | assumption)
            obtain ⟨ad45002, e45002, hx45002_0, hx45002_1⟩ := at_T40 HR0.out x5_1 p45002 q45002
            obtain rfl : ad45001 = ad45002 := (by injection e45002)
            replace p45002 := eq_true p45002
            replace q45002 := eq_true q45002
            go_wp2
            go_ret
            exact ⟨by first | rfl | (simp; done) | (simp [*]; done), by repeat (first | exact Drawn0.refl _ | apply Drawn0.step)⟩
          · rw [if_neg c5] at H
            have c5b0 : (((rd_T40 l0 x5_1).f0).toList == a1.toList) = false := beq_eq_false_iff_ne.mpr c5
            have c5b1 : (((rd_T40 l0 x5_1).f0).toList != a1.toList) = true := bne_iff_ne.mpr c5
            have H' := Aside0.mk H
            clear H
            have p45001 : 0 ≤ (x5_1 : Int) := of_decide_eq_true (by first | (with_reducible assumption) | assumption)
            have q45001 : x5_1 < (l0.length : Int) := of_decide_eq_true (by first | (with_reducible assumption) | assumption)
            obtain ⟨ad45001, e45001, hx45001_0, hx45001_1⟩ := at_T40 HR0.out x5_1 p45001 q45001
            cases e45001
            replace p45001 := eq_true p45001
            replace q45001 := eq_true q45001
            go_wp2
            go_roundg k1
            case measure => have := HK1.out; omega
            case rel => exact ⟨(wrap64 (x5_1 + 1)), (by first | rfl | (simp; done) | (simp [*]; done)), H', ⟨by have := HK1.out; omega⟩, by repeat (first | exact Drawn0.refl _ | apply Drawn0.step)⟩
        · rw [if_neg c4] at H
          exact absurd H (by simp)
      · rw [if_neg c3] at H
        have c3b0 : decide (x5_1 < (l0.length : Int)) = false := decide_eq_false c3
        clear c3
        replace H := Option.bind_eq_some_iff.mp H
        obtain ⟨⟨t45003, t45004⟩, A60, H⟩ := H
        replace H : (some t45003) = some r := H
        have A6 := Aside0.mk A60
        clear A60
        obtain rfl := Option.some.inj H
        go_wp2_with (first | ((with_reducible refine gate_callee (f := 20) rfl ?_); refine goesL_ (some 28) rfl rfl Tryd.func20 (by kernel_rfl) rfl #[.string a1] rfl (by (try simp only [List.map_toArray, List.map_cons, List.map_nil]); first | done | rfl | (simp only [List.length_drop, List.length_take]; rfl)) ?_; (with_reducible refine (tinderref19_Default.calls k1 a1 t45003 t45004 _ A6.out).mono ?_); rintro e w' ⟨rfl, ⟨nd, rfl⟩⟩; refine ⟨_, rfl, ?_⟩))
        go_ret
        exact ⟨by first | rfl | (simp; done) | (simp [*]; done), by repeat (first | exact Drawn0.refl _ | apply Drawn0.step)⟩

end Go.Proofs.YtefhngadeimklaaDoor.Q
end
section
namespace Go.Proofs.YtefhngadeimklaaDoor.Q
open Go.RowKit Go.Proofs.YtefhngadeimklaaDoorW.PrintWords Go.Proofs.YtefhngadeimklaaDoorW.PrintLast Go.Proofs.YtefhngadeimklaaDoorW.PrintMore
set_option linter.unusedVariables false
set_option linter.unusedSimpArgs false

attribute [local go_sem] max2_int min2_int max_two min_two max_three min_three max_four min_four
/-! ### tinderref19_Get: function 24 -/
def tinderref19_Get.f (k : Nat) (l0 : List (S40)) (a1 : ByteArray) : Option (ByteArray × Int) := (tinderref19_Right.f k l0).bind fun t25001 => (if t25001 = true then ((tinderref19_find.f k a1).bind fun t25002 => (if t25002 < 0 then (some ((⟨#[]⟩ : ByteArray), 2)) else ((tinderref19_value.f k l0 a1).bind fun t25003 => (some (t25003, 0))))) else (some ((⟨#[]⟩ : ByteArray), 1)))

end Go.Proofs.YtefhngadeimklaaDoor.Q
end
section
namespace Go.Proofs.YtefhngadeimklaaDoor.Q
open Go.RowKit Go.Proofs.YtefhngadeimklaaDoorW.PrintWords Go.Proofs.YtefhngadeimklaaDoorW.PrintLast Go.Proofs.YtefhngadeimklaaDoorW.PrintMore
attribute [local go_sem] max2_int min2_int max_two min_two max_three min_three max_four min_four
set_option linter.unusedVariables false
def vars_Get.f (k : Nat) (l0 : List S40) (a1 : ByteArray) : Option (ByteArray × Int) := (vars_Right.f k l0).bind fun t => if t = true then (if 0 ≤ idxN a1 l0 then some ((rd_T40 l0 (idxN a1 l0)).f1, 0) else vars_Default.f k a1) else some ((⟨#[]⟩ : ByteArray), 1)
end Go.Proofs.YtefhngadeimklaaDoor.Q
end
section
namespace Go.Proofs.YtefhngadeimklaaDoor.Q
open Go.RowKit Go.Proofs.YtefhngadeimklaaDoorW.PrintWords Go.Proofs.YtefhngadeimklaaDoorW.PrintLast Go.Proofs.YtefhngadeimklaaDoorW.PrintMore
set_option linter.unusedVariables false
set_option linter.unusedSimpArgs false

attribute [local go_sem] max2_int min2_int max_two min_two max_three min_three max_four min_four
/-! ### tinderlaw19_VarsGets: function 5 -/
def tinderlaw19_VarsGets.f (k : Nat) (l0 : List (S40)) (a1 : ByteArray) : Option (Bool) := (tinderlaw19_alive.f).bind fun t6001 => (if t6001 = true then ((vars_Get.f k l0 a1).bind fun bt6002 => ((tinderref19_Get.f k l0 a1).bind fun bt6004 => (if bt6002.1.toList = bt6004.1.toList then (if bt6002.2 = bt6004.2 then ((vars_Right.f k l0).bind fun t6006 => ((tinderref19_Right.f k l0).bind fun t6007 => (some (t6006 == t6007)))) else (some false)) else (some false)))) else (some false))

end Go.Proofs.YtefhngadeimklaaDoor.Q
end
section
set_option linter.unusedSimpArgs false
set_option linter.unusedVariables false
namespace Go.Proofs.YtefhngadeimklaaDoor.Q
open Go.RowKit Go.Proofs.YtefhngadeimklaaDoorW.PrintWords Go.Proofs.YtefhngadeimklaaDoorW.PrintLast
def namesL : List ByteArray := (vars_Names.f 20).getD []
theorem refnames_20 : tinderref19_Names.f 20 = some namesL := by kernel_rfl
theorem value_go (s : ByteArray) (l : List S40) : ∀ (d k : Nat) (i : Int), 0 ≤ i → i + d = l.length → l.length < 1125899906842624 → d + 20 < k → tinderref19_value.l0 k l s i = some (if 0 ≤ idxN s (l.drop i.toNat) then (rd_T40 (l.drop i.toNat) (idxN s (l.drop i.toNat))).f1 else (defF s).1)
  | 0, k, i, h0, h1, hl, hk => by
    obtain ⟨k, rfl⟩ : ∃ m, k = m + 1 := ⟨k - 1, by omega⟩
    rw [tinderref19_value.l0, if_neg (by omega), List.drop_eq_nil_of_le (by omega), refdefault_eq k (by omega), Option.bind_some, if_neg (show ¬ 0 ≤ idxN s [] by rw [idxN]; decide)]
  | d + 1, k, i, h0, h1, hl, hk => by
    obtain ⟨k, rfl⟩ : ∃ m, k = m + 1 := ⟨k - 1, by omega⟩
    have hw : wrap64 (i + 1) = i + 1 := by unfold wrap64; omega
    have hr := idxN_range s (l.drop (i + 1).toNat)
    rw [tinderref19_value.l0, if_pos (by omega), if_pos h0, hw, value_go s l d k (i + 1) (by omega) (by omega) hl (by omega), at_drop l i h0 (by omega), idxN]
    by_cases he : (rd_T40 l i).f0.toList = s.toList
    · rw [if_pos he, if_pos he, if_pos (by decide)]
      rfl
    · rw [if_neg he, if_neg he]
      by_cases hn : idxN s (l.drop (i + 1).toNat) < 0
      · rw [if_pos hn, if_neg (by omega), if_neg (by decide)]
      · rw [if_neg hn, if_pos (by omega), if_pos (by omega)]
        unfold rd_T40
        rw [show (idxN s (l.drop (i + 1).toNat) + 1).toNat = (idxN s (l.drop (i + 1).toNat)).toNat + 1 by omega, List.getD_cons_succ]
theorem rightL_mem : ∀ (l : List S40) (last : Int), rightL l last = true → ∀ x ∈ l, 0 ≤ fndF x.f0
  | [], _, _, x, hx => absurd hx (List.not_mem_nil)
  | y :: r, last, h, x, hx => by
    rw [rightL, Bool.and_eq_true] at h
    rcases List.mem_cons.1 hx with rfl | hx
    · have h1 := h.1
      unfold okV at h1
      simp only [Bool.and_eq_true] at h1
      exact of_decide_eq_true h1.1.1.1.1
    · exact rightL_mem r _ h.2 x hx
def getF (l : List S40) (s : ByteArray) : ByteArray × Int := if rightF l = true then (if 0 ≤ idxN s l then ((rd_T40 l (idxN s l)).f1, 0) else defF s) else ((⟨#[]⟩ : ByteArray), 1)
end Go.Proofs.YtefhngadeimklaaDoor.Q
end
section
namespace Go.Proofs.YtefhngadeimklaaDoor.Q
open Go.RowKit Go.Proofs.YtefhngadeimklaaDoorW.PrintWords Go.Proofs.YtefhngadeimklaaDoorW.PrintLast Go.Proofs.YtefhngadeimklaaDoorW.PrintMore
set_option linter.unusedVariables false
set_option linter.unusedSimpArgs false

attribute [local go_sem] max2_int min2_int max_two min_two max_three min_three max_four min_four
/-! ### tinderlaw19_copied: function 12 -/
def tinderlaw19_copied.f (l0 : List (S40)) : Option ((List (S40))) := if ([] : List (S40)).length + l0.length < 4398046511104 then (some (([] : List (S40)) ++ l0)) else (none)
set_option maxHeartbeats 8000000 in
set_option maxRecDepth 100000 in
theorem tinderlaw19_copied.calls (A0 : Option Addr) (c0 : Nat) (l0 : List (S40)) (r : List (S40)) (w : World) (hr0 : Kd.C k40 w A0 l0.length l0) (hc0 : l0.length ≤ c0) (h : tinderlaw19_copied.f l0 = some r) :
    Calls Tryd.prog 12 #[.slice A0 l0.length c0] w fun e w' => ∃ v0_ : Value, e = .returned (v0_) ∧ Kd.R k40 40 w' w.heap.size (fun _ => True) v0_ r ∧ Below w.heap.size w w' := by
  have HR0 := Aside0.mk hr0
  have HC0 := Aside0.mk hc0
  clear hr0 hc0
  have HB := Aside0.mk (Below.refl w.heap.size w)
  have H : (if ([] : List (S40)).length + l0.length < 4398046511104 then (some (([] : List (S40)) ++ l0)) else (none)) = some r := h
  clear h
  by_cases c2 : ([] : List (S40)).length + l0.length < 4398046511104
  · rw [if_pos c2] at H
    have LMc2 := Aside0.mk c2
    clear c2
    obtain ⟨y13001, hy13001⟩ : ∃ y_ : List (S40), y_ = (([] : List (S40)) ++ l0) := ⟨_, rfl⟩
    replace H : (some y13001) = some r := by first | (rw [hy13001]; with_reducible exact H) | (have H2_ := (Option.bind_some _ _).symm.trans H; rw [hy13001]; with_reducible exact H2_) | (have H2_ := (Option.bind_some _ _).symm.trans H; with_reducible exact H2_) | with_reducible exact H | (rw [hy13001]; exact H) | exact H
    have Ny13001 := Aside0.mk hy13001
    clear hy13001
    obtain rfl := Option.some.inj H
    go_enter Tryd.func12, Tryd.ntmps12
    go_wp2_with (first | ((with_reducible refine gate_builtin (b := .append) (xs := #[.tmp 4, .tmp 5]) rfl ?_); at_builtin; refine Kd.R_append_rows k40 (w0 := w) w.heap.size rfl (.tmp 4) (.tmp 5) 22 40 (.agg #[(.string ⟨#[]⟩), (.string ⟨#[]⟩)]) 32 rfl Tryd.underlying22 info40 rfl (by decide) (by omega) (.slice none 0 0) ([] : List (S40)) l0 _ _ _ (fun _ => True) (fun _ => False) rfl rfl ?aO ?aR (fun _ _ h => h) (fun _ h => h.elim) ?aF ?aB ?aS ?aL ?_; (case aR => repeat (first | exact HR0.out | (with_reducible refine Kd.C_alloc ?_ _) | (with_reducible refine Kd.C_drewN ?_ _) | (with_reducible refine Kd.C_drew ?_))); (case aB => exact (by repeat (first | (with_reducible first | exact HB.out | apply below_alloc | apply pw_below_drewN | apply below_drew1) | exact HB.out))); (case aF => exact (fun _ _ => trivial)); (case aO => exact ((Kd.R_nil _ _ _ _ (fun _ => True)))); (case aS => exact (below_size (by repeat (first | (with_reducible first | exact HB.out | apply below_alloc | apply pw_below_drewN | apply below_drew1) | exact HB.out)))); (case aL => have := LMc2.out; omega); intro v13002 w3 ho hb hg hat; rw [← Ny13001.out] at ho; have n0_ := Aside0.mk (hb); have n1_ := Aside0.mk (ho); clear HB; have HB := n0_; have HO13003 := n1_; clear n0_ n1_; clear ho hb hg hat))
    go_ret
    exact ⟨_, by first | rfl | (simp [errW_none, errW_some] <;> rfl) | (simp [*, errW_none, errW_some] <;> rfl), by (with_reducible repeat (first | apply Kd.R_alloc | apply Kd.R_drewN | apply Kd.R_drew)); exact HO13003.out, by repeat (first | (with_reducible first | exact HB.out | apply below_alloc | apply pw_below_drewN | apply below_drew1) | exact HB.out)⟩
  · rw [if_neg c2] at H
    exact absurd H (by simp)

end Go.Proofs.YtefhngadeimklaaDoor.Q
end
section
namespace Go.Proofs.YtefhngadeimklaaDoor.Q
open Go.RowKit Go.Proofs.YtefhngadeimklaaDoorW.PrintWords Go.Proofs.YtefhngadeimklaaDoorW.PrintLast Go.Proofs.YtefhngadeimklaaDoorW.PrintMore
set_option linter.unusedVariables false
set_option linter.unusedSimpArgs false

attribute [local go_sem] max2_int min2_int max_two min_two max_three min_three max_four min_four
theorem eqA40 (d : Nat) (w : World) (x0 y0 : ByteArray) (x1 y1 : ByteArray) :
    (Op.equalIn (d + 2) 40 (.agg #[.string x0, .string x1]) (.agg #[.string y0, .string y1])).run Tryd.prog w = .ok (x0.toList == y0.toList && (x1.toList == y1.toList)) w := by
  refine eqA_of Tryd.underlying40 (by kernel_rfl) ?_
  refine eqf_cons (by rfl) (by go_simp; rfl) (by go_simp; rfl) (by go_simp) ?_
  exact eqf_last (by rfl) (by go_simp; rfl) (by go_simp; rfl) (by go_simp)
end Go.Proofs.YtefhngadeimklaaDoor.Q
end
