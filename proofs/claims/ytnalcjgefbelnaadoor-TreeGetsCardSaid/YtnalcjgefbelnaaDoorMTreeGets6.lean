/- Contracts of Go functions and plain facts, of several texts, one behind the other; no condition. -/
import Derived.Test.YtnalcjgefbelnaaDoorMTreeGets2
import Derived.Test.YtnalcjgefbelnaaDoorMTreeGets3
import Derived.Test.YtnalcjgefbelnaaDoorMTreeGets5
section
namespace Go.Proofs.YtnalcjgefbelnaaDoor.Q
open Go.RowKit Go.Proofs.YtnalcjgefbelnaaDoorW.PrintWords Go.Proofs.YtnalcjgefbelnaaDoorW.PrintLast Go.Proofs.YtnalcjgefbelnaaDoorW.PrintMore
set_option linter.unusedVariables false
set_option linter.unusedSimpArgs false

attribute [local go_sem] max2_int min2_int max_two min_two max_three min_three max_four min_four
/-! ### tinderlaw08_alive: function 11 -/
def tinderlaw08_alive.f  : Option (Bool) := (tree_New.f).bind fun t12001 => ((tree_Add.f t12001 0 (⟨#[112, 99, 105]⟩ : ByteArray) (([31] : List Int))).bind fun bt12007 => ((tree_Add.f bt12007.1 bt12007.2.1 (⟨#[100, 105, 115, 107]⟩ : ByteArray) ([] : List Int)).bind fun bt12012 => ((tree_Path.f bt12012.1 bt12012.2.1).bind fun bt12017 => (if bt12007.2.2 = 0 then (if bt12012.2.2 = 0 then (if bt12007.2.1 = 1 then (if bt12012.2.1 = 2 then (if bt12017.1.toList = ([47, 112, 99, 105, 64, 49, 102, 47, 100, 105, 115, 107] : List UInt8) then (some (bt12017.2 == 0)) else (some false)) else (some false)) else (some false)) else (some false)) else (some false)))))
set_option maxHeartbeats 8000000 in
set_option maxRecDepth 100000 in
theorem tinderlaw08_alive.calls  (r : Bool) (w : World) (ht : QB.Tabs w) (h : tinderlaw08_alive.f  = some r) :
    Calls Tryd.prog 11 #[] w fun e w' => e = .returned (.bool r) ∧ Below w.heap.size w w' := by
  have HB := Aside0.mk (Below.refl w.heap.size w)
  have H : ((tree_New.f).bind fun t12001 => ((tree_Add.f t12001 0 (⟨#[112, 99, 105]⟩ : ByteArray) (([31] : List Int))).bind fun bt12007 => ((tree_Add.f bt12007.1 bt12007.2.1 (⟨#[100, 105, 115, 107]⟩ : ByteArray) ([] : List Int)).bind fun bt12012 => ((tree_Path.f bt12012.1 bt12012.2.1).bind fun bt12017 => (if bt12007.2.2 = 0 then (if bt12012.2.2 = 0 then (if bt12007.2.1 = 1 then (if bt12012.2.1 = 2 then (if bt12017.1.toList = ([47, 112, 99, 105, 64, 49, 102, 47, 100, 105, 115, 107] : List UInt8) then (some (bt12017.2 == 0)) else (some false)) else (some false)) else (some false)) else (some false)) else (some false)))))) = some r := h
  clear h
  replace H := Option.bind_eq_some_iff.mp H
  obtain ⟨t12001, A10, H⟩ := H
  replace H : ((tree_Add.f t12001 0 (⟨#[112, 99, 105]⟩ : ByteArray) (([31] : List Int))).bind fun bt12007 => ((tree_Add.f bt12007.1 bt12007.2.1 (⟨#[100, 105, 115, 107]⟩ : ByteArray) ([] : List Int)).bind fun bt12012 => ((tree_Path.f bt12012.1 bt12012.2.1).bind fun bt12017 => (if bt12007.2.2 = 0 then (if bt12012.2.2 = 0 then (if bt12007.2.1 = 1 then (if bt12012.2.1 = 2 then (if bt12017.1.toList = ([47, 112, 99, 105, 64, 49, 102, 47, 100, 105, 115, 107] : List UInt8) then (some (bt12017.2 == 0)) else (some false)) else (some false)) else (some false)) else (some false)) else (some false))))) = some r := H
  have A1 := Aside0.mk A10
  clear A10
  obtain ⟨y12004, hy12004⟩ : ∃ y_ : List Int, y_ = (([31] : List Int)) := ⟨_, rfl⟩
  replace H : ((tree_Add.f t12001 0 (⟨#[112, 99, 105]⟩ : ByteArray) y12004).bind fun bt12007 => ((tree_Add.f bt12007.1 bt12007.2.1 (⟨#[100, 105, 115, 107]⟩ : ByteArray) ([] : List Int)).bind fun bt12012 => ((tree_Path.f bt12012.1 bt12012.2.1).bind fun bt12017 => (if bt12007.2.2 = 0 then (if bt12012.2.2 = 0 then (if bt12007.2.1 = 1 then (if bt12012.2.1 = 2 then (if bt12017.1.toList = ([47, 112, 99, 105, 64, 49, 102, 47, 100, 105, 115, 107] : List UInt8) then (some (bt12017.2 == 0)) else (some false)) else (some false)) else (some false)) else (some false)) else (some false))))) = some r := by first | (rw [hy12004]; with_reducible exact H) | (have H2_ := (Option.bind_some _ _).symm.trans H; rw [hy12004]; with_reducible exact H2_) | (have H2_ := (Option.bind_some _ _).symm.trans H; with_reducible exact H2_) | with_reducible exact H | (rw [hy12004]; exact H) | exact H
  have Ny12004 := Aside0.mk hy12004
  clear hy12004
  replace H := Option.bind_eq_some_iff.mp H
  obtain ⟨⟨t12007, t12008, t12009⟩, A20, H⟩ := H
  replace H : ((tree_Add.f t12007 t12008 (⟨#[100, 105, 115, 107]⟩ : ByteArray) ([] : List Int)).bind fun bt12012 => ((tree_Path.f bt12012.1 bt12012.2.1).bind fun bt12017 => (if t12009 = 0 then (if bt12012.2.2 = 0 then (if t12008 = 1 then (if bt12012.2.1 = 2 then (if bt12017.1.toList = ([47, 112, 99, 105, 64, 49, 102, 47, 100, 105, 115, 107] : List UInt8) then (some (bt12017.2 == 0)) else (some false)) else (some false)) else (some false)) else (some false)) else (some false)))) = some r := H
  have A2 := Aside0.mk A20
  clear A20
  replace H := Option.bind_eq_some_iff.mp H
  obtain ⟨⟨t12012, t12013, t12014⟩, A30, H⟩ := H
  replace H : ((tree_Path.f t12012 t12013).bind fun bt12017 => (if t12009 = 0 then (if t12014 = 0 then (if t12008 = 1 then (if t12013 = 2 then (if bt12017.1.toList = ([47, 112, 99, 105, 64, 49, 102, 47, 100, 105, 115, 107] : List UInt8) then (some (bt12017.2 == 0)) else (some false)) else (some false)) else (some false)) else (some false)) else (some false))) = some r := H
  have A3 := Aside0.mk A30
  clear A30
  replace H := Option.bind_eq_some_iff.mp H
  obtain ⟨⟨t12017, t12018⟩, A40, H⟩ := H
  replace H : (if t12009 = 0 then (if t12014 = 0 then (if t12008 = 1 then (if t12013 = 2 then (if t12017.toList = ([47, 112, 99, 105, 64, 49, 102, 47, 100, 105, 115, 107] : List UInt8) then (some (t12018 == 0)) else (some false)) else (some false)) else (some false)) else (some false)) else (some false)) = some r := H
  have A4 := Aside0.mk A40
  clear A40
  by_cases c5 : t12009 = 0
  · rw [if_pos c5] at H
    have c5b0 : (t12009 == 0) = true := beq_iff_eq.mpr c5
    have c5b1 : (t12009 != 0) = false := bne_eq_false_iff_eq.mpr c5
    clear c5
    by_cases c6 : t12014 = 0
    · rw [if_pos c6] at H
      have c6b0 : (t12014 == 0) = true := beq_iff_eq.mpr c6
      have c6b1 : (t12014 != 0) = false := bne_eq_false_iff_eq.mpr c6
      clear c6
      by_cases c7 : t12008 = 1
      · rw [if_pos c7] at H
        have c7b0 : (t12008 == 1) = true := beq_iff_eq.mpr c7
        have c7b1 : (t12008 != 1) = false := bne_eq_false_iff_eq.mpr c7
        clear c7
        by_cases c8 : t12013 = 2
        · rw [if_pos c8] at H
          have c8b0 : (t12013 == 2) = true := beq_iff_eq.mpr c8
          have c8b1 : (t12013 != 2) = false := bne_eq_false_iff_eq.mpr c8
          clear c8
          by_cases c9 : t12017.toList = ([47, 112, 99, 105, 64, 49, 102, 47, 100, 105, 115, 107] : List UInt8)
          · rw [if_pos c9] at H
            have c9b0 : (t12017.toList == ([47, 112, 99, 105, 64, 49, 102, 47, 100, 105, 115, 107] : List UInt8)) = true := beq_iff_eq.mpr c9
            have c9b1 : (t12017.toList != ([47, 112, 99, 105, 64, 49, 102, 47, 100, 105, 115, 107] : List UInt8)) = false := bne_eq_false_iff_eq.mpr c9
            clear c9
            obtain rfl := Option.some.inj H
            go_enter Tryd.func11, Tryd.ntmps11
            go_wp2_with (first | ((with_reducible refine gate_callee (f := 16) rfl ?_); refine goesL_ (some 9) rfl rfl Tryd.func16 (by kernel_rfl) rfl #[] rfl (by (try simp only [List.map_toArray, List.map_cons, List.map_nil]); first | done | rfl | (simp only [List.length_drop, List.length_take]; rfl)) ?_; (with_reducible refine (tree_New.calls  t12001 _ A1.out).mono ?_); rintro e w10 ⟨v12002, rfl, ho0, hb⟩; refine ⟨_, rfl, ?_⟩; have n0_ := Aside0.mk (Kd.R_lower ho0 (below_size (by repeat (first | (with_reducible first | exact HB.out | apply below_alloc | apply pw_below_drewN | apply below_drew1) | exact HB.out)))); have n1_ := Aside0.mk (below_step (by repeat (first | (with_reducible first | exact HB.out | apply below_alloc | apply pw_below_drewN | apply below_drew1) | exact HB.out)) hb); clear HB; have HO12003 := n0_; have HB := n1_; clear n0_ n1_; (try clear hb); (try clear hb2); (try clear hk); (try clear hi); (try clear ho0)) | ((with_reducible refine gate_dst (N := 10) rfl ?_); refine Kd.R_lit (Kd.int .u32) _ 66 ?hg (N := 10) ?hd (xs := ([31] : List Int)) (inner := [.int .u32 31]) (ok := fun _ => True) (okp := fun _ => True) ?hr ?hp (fun _ hk => hk) trivial (Below.refl _ _) (Nat.le_refl _) (by simp) ?_; (case hd => rfl); (case hg => rfl); (case hr => first | (go_simp; done) | (go_simp; rfl)); (case hp => exact (Reps.one (show Kd.M (Kd.int .u32) _ _ _ 31 [.int .u32 31] from rfl) (Reps.none _ _))); intro v12005 w11 ho12 hb hg_ hnew_; clear hg_ hnew_; (first | rw [← Ny12004.out] at ho12 | (simp only [Int.reduceToNat] at ho12; rw [← Ny12004.out] at ho12)); have n0_ := Aside0.mk (Kd.R_elder' (by (with_reducible repeat (first | apply Kd.R_alloc | apply Kd.R_drewN | apply Kd.R_drew)); exact HO12003.out) (Kd.R_base ho12) hb); have n1_ := Aside0.mk (Kd.R_lower ho12 (below_size (by repeat (first | (with_reducible first | exact HB.out | apply below_alloc | apply pw_below_drewN | apply below_drew1) | exact HB.out)))); have n2_ := Aside0.mk (below_step (by repeat (first | (with_reducible first | exact HB.out | apply below_alloc | apply pw_below_drewN | apply below_drew1) | exact HB.out)) hb); clear HO12003; clear HB; have HO12003 := n0_; have HO12006 := n1_; have HB := n2_; clear n0_ n1_ n2_; clear hb ho12; obtain ⟨Ao13, co13, eo13⟩ := Kd.R_slice HO12003.out; subst eo13; obtain ⟨Ao14, co14, eo14⟩ := Kd.R_slice HO12006.out; subst eo14) | ((with_reducible refine gate_callee (f := 19) rfl ?_); refine goesL_ (some 11) rfl rfl Tryd.func19 (by kernel_rfl) rfl #[.slice Ao13 t12001.length co13, .int .i64 0, .string (⟨#[112, 99, 105]⟩ : ByteArray), .slice Ao14 y12004.length co14] rfl (by (try simp only [List.map_toArray, List.map_cons, List.map_nil]); first | done | rfl | (simp only [List.length_drop, List.length_take]; rfl)) ?_; (with_reducible refine (tree_Add.calls _ _ t12001 0 (⟨#[112, 99, 105]⟩ : ByteArray) _ _ y12004 t12007 t12008 t12009 _ ?side1 ?side2 ?side3 ?side4 A2.out).mono ?_); (case side1 => repeat (first | exact (Kd.R_reads' HO12003.out).2.2 | (with_reducible refine Kd.C_alloc ?_ _) | (with_reducible refine Kd.C_drewN ?_ _) | (with_reducible refine Kd.C_drew ?_))); (case side2 => exact (Kd.R_reads' HO12003.out).2.1); (case side3 => repeat (first | exact (Kd.R_reads' HO12006.out).2.2 | (with_reducible refine Kd.C_alloc ?_ _) | (with_reducible refine Kd.C_drewN ?_ _) | (with_reducible refine Kd.C_drew ?_))); (case side4 => exact (Kd.R_reads' HO12006.out).2.1); rintro e w15 ⟨v12010, rfl, ho0, hb⟩; refine ⟨_, rfl, ?_⟩; have n0_ := Aside0.mk (Kd.R_elder' (by (with_reducible repeat (first | apply Kd.R_alloc | apply Kd.R_drewN | apply Kd.R_drew)); exact HO12003.out) (Kd.R_base ho0) hb); have n1_ := Aside0.mk (Kd.R_below (by (with_reducible repeat (first | apply Kd.R_alloc | apply Kd.R_drewN | apply Kd.R_drew)); exact HO12006.out) hb); have n2_ := Aside0.mk (Kd.R_lower (Kd.R_new' (Kd.R_new' ho0 (Kd.R_lt (by (with_reducible repeat (first | apply Kd.R_alloc | apply Kd.R_drewN | apply Kd.R_drew)); exact HO12003.out))) (Kd.R_lt (by (with_reducible repeat (first | apply Kd.R_alloc | apply Kd.R_drewN | apply Kd.R_drew)); exact HO12006.out))) (below_size (by repeat (first | (with_reducible first | exact HB.out | apply below_alloc | apply pw_below_drewN | apply below_drew1) | exact HB.out)))); have n3_ := Aside0.mk (below_step (by repeat (first | (with_reducible first | exact HB.out | apply below_alloc | apply pw_below_drewN | apply below_drew1) | exact HB.out)) hb); clear HO12003; clear HO12006; clear HB; have HO12003 := n0_; have HO12006 := n1_; have HO12011 := n2_; have HB := n3_; clear n0_ n1_ n2_ n3_; (try clear hb); (try clear hb2); (try clear hk); (try clear hi); (try clear ho0); obtain ⟨Ao16, co16, eo16⟩ := Kd.R_slice HO12011.out; subst eo16) | ((with_reducible refine gate_callee (f := 19) rfl ?_); refine goesL_ (some 18) rfl rfl Tryd.func19 (by kernel_rfl) rfl #[.slice Ao16 t12007.length co16, .int .i64 t12008, .string (⟨#[100, 105, 115, 107]⟩ : ByteArray), .slice none 0 0] rfl (by (try simp only [List.map_toArray, List.map_cons, List.map_nil]); first | done | rfl | (simp only [List.length_drop, List.length_take]; rfl)) ?_; (refine (tree_Add.calls _ _ t12007 t12008 (⟨#[100, 105, 115, 107]⟩ : ByteArray) _ _ ([] : List Int) t12012 t12013 t12014 _ ?side1 ?side2 ?side3 ?side4 A3.out).mono ?_); (case side1 => repeat (first | exact (Kd.R_reads' HO12011.out).2.2 | (with_reducible refine Kd.C_alloc ?_ _) | (with_reducible refine Kd.C_drewN ?_ _) | (with_reducible refine Kd.C_drew ?_))); (case side2 => exact (Kd.R_reads' HO12011.out).2.1); (case side3 => exact Kd.C_nil _ _); (case side4 => exact Nat.le_refl _); rintro e w17 ⟨v12015, rfl, ho0, hb⟩; refine ⟨_, rfl, ?_⟩; have n0_ := Aside0.mk (Kd.R_elder' (by (with_reducible repeat (first | apply Kd.R_alloc | apply Kd.R_drewN | apply Kd.R_drew)); exact HO12003.out) (Kd.R_base ho0) hb); have n1_ := Aside0.mk (Kd.R_below (by (with_reducible repeat (first | apply Kd.R_alloc | apply Kd.R_drewN | apply Kd.R_drew)); exact HO12006.out) hb); have n2_ := Aside0.mk (Kd.R_elder' (by (with_reducible repeat (first | apply Kd.R_alloc | apply Kd.R_drewN | apply Kd.R_drew)); exact HO12011.out) (Kd.R_base ho0) hb); have n3_ := Aside0.mk (Kd.R_lower (Kd.R_new' (Kd.R_new' (Kd.R_new' ho0 (Kd.R_lt (by (with_reducible repeat (first | apply Kd.R_alloc | apply Kd.R_drewN | apply Kd.R_drew)); exact HO12003.out))) (Kd.R_lt (by (with_reducible repeat (first | apply Kd.R_alloc | apply Kd.R_drewN | apply Kd.R_drew)); exact HO12006.out))) (Kd.R_lt (by (with_reducible repeat (first | apply Kd.R_alloc | apply Kd.R_drewN | apply Kd.R_drew)); exact HO12011.out))) (below_size (by repeat (first | (with_reducible first | exact HB.out | apply below_alloc | apply pw_below_drewN | apply below_drew1) | exact HB.out)))); have n4_ := Aside0.mk (below_step (by repeat (first | (with_reducible first | exact HB.out | apply below_alloc | apply pw_below_drewN | apply below_drew1) | exact HB.out)) hb); clear HO12003; clear HO12006; clear HO12011; clear HB; have HO12003 := n0_; have HO12006 := n1_; have HO12011 := n2_; have HO12016 := n3_; have HB := n4_; clear n0_ n1_ n2_ n3_ n4_; (try clear hb); (try clear hb2); (try clear hk); (try clear hi); (try clear ho0); obtain ⟨Ao18, co18, eo18⟩ := Kd.R_slice HO12016.out; subst eo18) | ((with_reducible refine gate_callee (f := 23) rfl ?_); refine goesL_ (some 25) rfl rfl Tryd.func23 (by kernel_rfl) rfl #[.slice Ao18 t12012.length co18, .int .i64 t12013] rfl (by (try simp only [List.map_toArray, List.map_cons, List.map_nil]); first | done | rfl | (simp only [List.length_drop, List.length_take]; rfl)) ?_; (with_reducible refine (tree_Path.calls _ _ t12012 t12013 t12017 t12018 _ (QB.Tabs.below ht (by repeat (first | (with_reducible first | exact HB.out | apply below_alloc | apply pw_below_drewN | apply below_drew1 | refine below_set ?_ (Aside0.out (by assumption))) | exact HB.out))) ?side1 ?side2 A4.out).mono ?_); (case side1 => repeat (first | exact (Kd.R_reads' HO12016.out).2.2 | (with_reducible refine Kd.C_alloc ?_ _) | (with_reducible refine Kd.C_drewN ?_ _) | (with_reducible refine Kd.C_drew ?_))); (case side2 => exact (Kd.R_reads' HO12016.out).2.1); rintro e w19 ⟨rfl, hb⟩; refine ⟨_, rfl, ?_⟩; have n0_ := Aside0.mk (Kd.R_below (by (with_reducible repeat (first | apply Kd.R_alloc | apply Kd.R_drewN | apply Kd.R_drew)); exact HO12003.out) hb); have n1_ := Aside0.mk (Kd.R_below (by (with_reducible repeat (first | apply Kd.R_alloc | apply Kd.R_drewN | apply Kd.R_drew)); exact HO12006.out) hb); have n2_ := Aside0.mk (Kd.R_below (by (with_reducible repeat (first | apply Kd.R_alloc | apply Kd.R_drewN | apply Kd.R_drew)); exact HO12011.out) hb); have n3_ := Aside0.mk (Kd.R_below (by (with_reducible repeat (first | apply Kd.R_alloc | apply Kd.R_drewN | apply Kd.R_drew)); exact HO12016.out) hb); have n4_ := Aside0.mk (below_step (by repeat (first | (with_reducible first | exact HB.out | apply below_alloc | apply pw_below_drewN | apply below_drew1) | exact HB.out)) hb); clear HO12003; clear HO12006; clear HO12011; clear HO12016; clear HB; have HO12003 := n0_; have HO12006 := n1_; have HO12011 := n2_; have HO12016 := n3_; have HB := n4_; clear n0_ n1_ n2_ n3_ n4_; (try clear hb); (try clear hb2); (try clear hk); (try clear hi)))
            go_ret
            exact ⟨by first | rfl | (simp [errW_none, errW_some] <;> rfl) | (simp [*, errW_none, errW_some] <;> rfl), by repeat (first | (with_reducible first | exact HB.out | apply below_alloc | apply pw_below_drewN | apply below_drew1) | exact HB.out)⟩
          · rw [if_neg c9] at H
            have c9b0 : (t12017.toList == ([47, 112, 99, 105, 64, 49, 102, 47, 100, 105, 115, 107] : List UInt8)) = false := beq_eq_false_iff_ne.mpr c9
            have c9b1 : (t12017.toList != ([47, 112, 99, 105, 64, 49, 102, 47, 100, 105, 115, 107] : List UInt8)) = true := bne_iff_ne.mpr c9
            obtain rfl := Option.some.inj H
            go_enter Tryd.func11, Tryd.ntmps11
            go_wp2_with (first | ((with_reducible refine gate_callee (f := 16) rfl ?_); refine goesL_ (some 9) rfl rfl Tryd.func16 (by kernel_rfl) rfl #[] rfl (by (try simp only [List.map_toArray, List.map_cons, List.map_nil]); first | done | rfl | (simp only [List.length_drop, List.length_take]; rfl)) ?_; (with_reducible refine (tree_New.calls  t12001 _ A1.out).mono ?_); rintro e w20 ⟨v12002, rfl, ho0, hb⟩; refine ⟨_, rfl, ?_⟩; have n0_ := Aside0.mk (Kd.R_lower ho0 (below_size (by repeat (first | (with_reducible first | exact HB.out | apply below_alloc | apply pw_below_drewN | apply below_drew1) | exact HB.out)))); have n1_ := Aside0.mk (below_step (by repeat (first | (with_reducible first | exact HB.out | apply below_alloc | apply pw_below_drewN | apply below_drew1) | exact HB.out)) hb); clear HB; have HO12003 := n0_; have HB := n1_; clear n0_ n1_; (try clear hb); (try clear hb2); (try clear hk); (try clear hi); (try clear ho0)) | ((with_reducible refine gate_dst (N := 10) rfl ?_); refine Kd.R_lit (Kd.int .u32) _ 66 ?hg (N := 10) ?hd (xs := ([31] : List Int)) (inner := [.int .u32 31]) (ok := fun _ => True) (okp := fun _ => True) ?hr ?hp (fun _ hk => hk) trivial (Below.refl _ _) (Nat.le_refl _) (by simp) ?_; (case hd => rfl); (case hg => rfl); (case hr => first | (go_simp; done) | (go_simp; rfl)); (case hp => exact (Reps.one (show Kd.M (Kd.int .u32) _ _ _ 31 [.int .u32 31] from rfl) (Reps.none _ _))); intro v12005 w21 ho22 hb hg_ hnew_; clear hg_ hnew_; (first | rw [← Ny12004.out] at ho22 | (simp only [Int.reduceToNat] at ho22; rw [← Ny12004.out] at ho22)); have n0_ := Aside0.mk (Kd.R_elder' (by (with_reducible repeat (first | apply Kd.R_alloc | apply Kd.R_drewN | apply Kd.R_drew)); exact HO12003.out) (Kd.R_base ho22) hb); have n1_ := Aside0.mk (Kd.R_lower ho22 (below_size (by repeat (first | (with_reducible first | exact HB.out | apply below_alloc | apply pw_below_drewN | apply below_drew1) | exact HB.out)))); have n2_ := Aside0.mk (below_step (by repeat (first | (with_reducible first | exact HB.out | apply below_alloc | apply pw_below_drewN | apply below_drew1) | exact HB.out)) hb); clear HO12003; clear HB; have HO12003 := n0_; have HO12006 := n1_; have HB := n2_; clear n0_ n1_ n2_; clear hb ho22; obtain ⟨Ao23, co23, eo23⟩ := Kd.R_slice HO12003.out; subst eo23; obtain ⟨Ao24, co24, eo24⟩ := Kd.R_slice HO12006.out; subst eo24) | ((with_reducible refine gate_callee (f := 19) rfl ?_); refine goesL_ (some 11) rfl rfl Tryd.func19 (by kernel_rfl) rfl #[.slice Ao23 t12001.length co23, .int .i64 0, .string (⟨#[112, 99, 105]⟩ : ByteArray), .slice Ao24 y12004.length co24] rfl (by (try simp only [List.map_toArray, List.map_cons, List.map_nil]); first | done | rfl | (simp only [List.length_drop, List.length_take]; rfl)) ?_; (with_reducible refine (tree_Add.calls _ _ t12001 0 (⟨#[112, 99, 105]⟩ : ByteArray) _ _ y12004 t12007 t12008 t12009 _ ?side1 ?side2 ?side3 ?side4 A2.out).mono ?_); (case side1 => repeat (first | exact (Kd.R_reads' HO12003.out).2.2 | (with_reducible refine Kd.C_alloc ?_ _) | (with_reducible refine Kd.C_drewN ?_ _) | (with_reducible refine Kd.C_drew ?_))); (case side2 => exact (Kd.R_reads' HO12003.out).2.1); (case side3 => repeat (first | exact (Kd.R_reads' HO12006.out).2.2 | (with_reducible refine Kd.C_alloc ?_ _) | (with_reducible refine Kd.C_drewN ?_ _) | (with_reducible refine Kd.C_drew ?_))); (case side4 => exact (Kd.R_reads' HO12006.out).2.1); rintro e w25 ⟨v12010, rfl, ho0, hb⟩; refine ⟨_, rfl, ?_⟩; have n0_ := Aside0.mk (Kd.R_elder' (by (with_reducible repeat (first | apply Kd.R_alloc | apply Kd.R_drewN | apply Kd.R_drew)); exact HO12003.out) (Kd.R_base ho0) hb); have n1_ := Aside0.mk (Kd.R_below (by (with_reducible repeat (first | apply Kd.R_alloc | apply Kd.R_drewN | apply Kd.R_drew)); exact HO12006.out) hb); have n2_ := Aside0.mk (Kd.R_lower (Kd.R_new' (Kd.R_new' ho0 (Kd.R_lt (by (with_reducible repeat (first | apply Kd.R_alloc | apply Kd.R_drewN | apply Kd.R_drew)); exact HO12003.out))) (Kd.R_lt (by (with_reducible repeat (first | apply Kd.R_alloc | apply Kd.R_drewN | apply Kd.R_drew)); exact HO12006.out))) (below_size (by repeat (first | (with_reducible first | exact HB.out | apply below_alloc | apply pw_below_drewN | apply below_drew1) | exact HB.out)))); have n3_ := Aside0.mk (below_step (by repeat (first | (with_reducible first | exact HB.out | apply below_alloc | apply pw_below_drewN | apply below_drew1) | exact HB.out)) hb); clear HO12003; clear HO12006; clear HB; have HO12003 := n0_; have HO12006 := n1_; have HO12011 := n2_; have HB := n3_; clear n0_ n1_ n2_ n3_; (try clear hb); (try clear hb2); (try clear hk); (try clear hi); (try clear ho0); obtain ⟨Ao26, co26, eo26⟩ := Kd.R_slice HO12011.out; subst eo26) | ((with_reducible refine gate_callee (f := 19) rfl ?_); refine goesL_ (some 18) rfl rfl Tryd.func19 (by kernel_rfl) rfl #[.slice Ao26 t12007.length co26, .int .i64 t12008, .string (⟨#[100, 105, 115, 107]⟩ : ByteArray), .slice none 0 0] rfl (by (try simp only [List.map_toArray, List.map_cons, List.map_nil]); first | done | rfl | (simp only [List.length_drop, List.length_take]; rfl)) ?_; (refine (tree_Add.calls _ _ t12007 t12008 (⟨#[100, 105, 115, 107]⟩ : ByteArray) _ _ ([] : List Int) t12012 t12013 t12014 _ ?side1 ?side2 ?side3 ?side4 A3.out).mono ?_); (case side1 => repeat (first | exact (Kd.R_reads' HO12011.out).2.2 | (with_reducible refine Kd.C_alloc ?_ _) | (with_reducible refine Kd.C_drewN ?_ _) | (with_reducible refine Kd.C_drew ?_))); (case side2 => exact (Kd.R_reads' HO12011.out).2.1); (case side3 => exact Kd.C_nil _ _); (case side4 => exact Nat.le_refl _); rintro e w27 ⟨v12015, rfl, ho0, hb⟩; refine ⟨_, rfl, ?_⟩; have n0_ := Aside0.mk (Kd.R_elder' (by (with_reducible repeat (first | apply Kd.R_alloc | apply Kd.R_drewN | apply Kd.R_drew)); exact HO12003.out) (Kd.R_base ho0) hb); have n1_ := Aside0.mk (Kd.R_below (by (with_reducible repeat (first | apply Kd.R_alloc | apply Kd.R_drewN | apply Kd.R_drew)); exact HO12006.out) hb); have n2_ := Aside0.mk (Kd.R_elder' (by (with_reducible repeat (first | apply Kd.R_alloc | apply Kd.R_drewN | apply Kd.R_drew)); exact HO12011.out) (Kd.R_base ho0) hb); have n3_ := Aside0.mk (Kd.R_lower (Kd.R_new' (Kd.R_new' (Kd.R_new' ho0 (Kd.R_lt (by (with_reducible repeat (first | apply Kd.R_alloc | apply Kd.R_drewN | apply Kd.R_drew)); exact HO12003.out))) (Kd.R_lt (by (with_reducible repeat (first | apply Kd.R_alloc | apply Kd.R_drewN | apply Kd.R_drew)); exact HO12006.out))) (Kd.R_lt (by (with_reducible repeat (first | apply Kd.R_alloc | apply Kd.R_drewN | apply Kd.R_drew)); exact HO12011.out))) (below_size (by repeat (first | (with_reducible first | exact HB.out | apply below_alloc | apply pw_below_drewN | apply below_drew1) | exact HB.out)))); have n4_ := Aside0.mk (below_step (by repeat (first | (with_reducible first | exact HB.out | apply below_alloc | apply pw_below_drewN | apply below_drew1) | exact HB.out)) hb); clear HO12003; clear HO12006; clear HO12011; clear HB; have HO12003 := n0_; have HO12006 := n1_; have HO12011 := n2_; have HO12016 := n3_; have HB := n4_; clear n0_ n1_ n2_ n3_ n4_; (try clear hb); (try clear hb2); (try clear hk); (try clear hi); (try clear ho0); obtain ⟨Ao28, co28, eo28⟩ := Kd.R_slice HO12016.out; subst eo28) | ((with_reducible refine gate_callee (f := 23) rfl ?_); refine goesL_ (some 25) rfl rfl Tryd.func23 (by kernel_rfl) rfl #[.slice Ao28 t12012.length co28, .int .i64 t12013] rfl (by (try simp only [List.map_toArray, List.map_cons, List.map_nil]); first | done | rfl | (simp only [List.length_drop, List.length_take]; rfl)) ?_; (with_reducible refine (tree_Path.calls _ _ t12012 t12013 t12017 t12018 _ (QB.Tabs.below ht (by repeat (first | (with_reducible first | exact HB.out | apply below_alloc | apply pw_below_drewN | apply below_drew1 | refine below_set ?_ (Aside0.out (by assumption))) | exact HB.out))) ?side1 ?side2 A4.out).mono ?_); (case side1 => repeat (first | exact (Kd.R_reads' HO12016.out).2.2 | (with_reducible refine Kd.C_alloc ?_ _) | (with_reducible refine Kd.C_drewN ?_ _) | (with_reducible refine Kd.C_drew ?_))); (case side2 => exact (Kd.R_reads' HO12016.out).2.1); rintro e w29 ⟨rfl, hb⟩; refine ⟨_, rfl, ?_⟩; have n0_ := Aside0.mk (Kd.R_below (by (with_reducible repeat (first | apply Kd.R_alloc | apply Kd.R_drewN | apply Kd.R_drew)); exact HO12003.out) hb); have n1_ := Aside0.mk (Kd.R_below (by (with_reducible repeat (first | apply Kd.R_alloc | apply Kd.R_drewN | apply Kd.R_drew)); exact HO12006.out) hb); have n2_ := Aside0.mk (Kd.R_below (by (with_reducible repeat (first | apply Kd.R_alloc | apply Kd.R_drewN | apply Kd.R_drew)); exact HO12011.out) hb); have n3_ := Aside0.mk (Kd.R_below (by (with_reducible repeat (first | apply Kd.R_alloc | apply Kd.R_drewN | apply Kd.R_drew)); exact HO12016.out) hb); have n4_ := Aside0.mk (below_step (by repeat (first | (with_reducible first | exact HB.out | apply below_alloc | apply pw_below_drewN | apply below_drew1) | exact HB.out)) hb); clear HO12003; clear HO12006; clear HO12011; clear HO12016; clear HB; have HO12003 := n0_; have HO12006 := n1_; have HO12011 := n2_; have HO12016 := n3_; have HB := n4_; clear n0_ n1_ n2_ n3_ n4_; (try clear hb); (try clear hb2); (try clear hk); (try clear hi)))
            go_ret
            exact ⟨by first | rfl | (simp [errW_none, errW_some] <;> rfl) | (simp [*, errW_none, errW_some] <;> rfl), by repeat (first | (with_reducible first | exact HB.out | apply below_alloc | apply pw_below_drewN | apply below_drew1) | exact HB.out)⟩
        · rw [if_neg c8] at H
          have c8b0 : (t12013 == 2) = false := beq_eq_false_iff_ne.mpr c8
          have c8b1 : (t12013 != 2) = true := bne_iff_ne.mpr c8
          obtain rfl := Option.some.inj H
          go_enter Tryd.func11, Tryd.ntmps11
          go_wp2_with (first | ((with_reducible refine gate_callee (f := 16) rfl ?_); refine goesL_ (some 9) rfl rfl Tryd.func16 (by kernel_rfl) rfl #[] rfl (by (try simp only [List.map_toArray, List.map_cons, List.map_nil]); first | done | rfl | (simp only [List.length_drop, List.length_take]; rfl)) ?_; (with_reducible refine (tree_New.calls  t12001 _ A1.out).mono ?_); rintro e w30 ⟨v12002, rfl, ho0, hb⟩; refine ⟨_, rfl, ?_⟩; have n0_ := Aside0.mk (Kd.R_lower ho0 (below_size (by repeat (first | (with_reducible first | exact HB.out | apply below_alloc | apply pw_below_drewN | apply below_drew1) | exact HB.out)))); have n1_ := Aside0.mk (below_step (by repeat (first | (with_reducible first | exact HB.out | apply below_alloc | apply pw_below_drewN | apply below_drew1) | exact HB.out)) hb); clear HB; have HO12003 := n0_; have HB := n1_; clear n0_ n1_; (try clear hb); (try clear hb2); (try clear hk); (try clear hi); (try clear ho0)) | ((with_reducible refine gate_dst (N := 10) rfl ?_); refine Kd.R_lit (Kd.int .u32) _ 66 ?hg (N := 10) ?hd (xs := ([31] : List Int)) (inner := [.int .u32 31]) (ok := fun _ => True) (okp := fun _ => True) ?hr ?hp (fun _ hk => hk) trivial (Below.refl _ _) (Nat.le_refl _) (by simp) ?_; (case hd => rfl); (case hg => rfl); (case hr => first | (go_simp; done) | (go_simp; rfl)); (case hp => exact (Reps.one (show Kd.M (Kd.int .u32) _ _ _ 31 [.int .u32 31] from rfl) (Reps.none _ _))); intro v12005 w31 ho32 hb hg_ hnew_; clear hg_ hnew_; (first | rw [← Ny12004.out] at ho32 | (simp only [Int.reduceToNat] at ho32; rw [← Ny12004.out] at ho32)); have n0_ := Aside0.mk (Kd.R_elder' (by (with_reducible repeat (first | apply Kd.R_alloc | apply Kd.R_drewN | apply Kd.R_drew)); exact HO12003.out) (Kd.R_base ho32) hb); have n1_ := Aside0.mk (Kd.R_lower ho32 (below_size (by repeat (first | (with_reducible first | exact HB.out | apply below_alloc | apply pw_below_drewN | apply below_drew1) | exact HB.out)))); have n2_ := Aside0.mk (below_step (by repeat (first | (with_reducible first | exact HB.out | apply below_alloc | apply pw_below_drewN | apply below_drew1) | exact HB.out)) hb); clear HO12003; clear HB; have HO12003 := n0_; have HO12006 := n1_; have HB := n2_; clear n0_ n1_ n2_; clear hb ho32; obtain ⟨Ao33, co33, eo33⟩ := Kd.R_slice HO12003.out; subst eo33; obtain ⟨Ao34, co34, eo34⟩ := Kd.R_slice HO12006.out; subst eo34) | ((with_reducible refine gate_callee (f := 19) rfl ?_); refine goesL_ (some 11) rfl rfl Tryd.func19 (by kernel_rfl) rfl #[.slice Ao33 t12001.length co33, .int .i64 0, .string (⟨#[112, 99, 105]⟩ : ByteArray), .slice Ao34 y12004.length co34] rfl (by (try simp only [List.map_toArray, List.map_cons, List.map_nil]); first | done | rfl | (simp only [List.length_drop, List.length_take]; rfl)) ?_; (with_reducible refine (tree_Add.calls _ _ t12001 0 (⟨#[112, 99, 105]⟩ : ByteArray) _ _ y12004 t12007 t12008 t12009 _ ?side1 ?side2 ?side3 ?side4 A2.out).mono ?_); (case side1 => repeat (first | exact (Kd.R_reads' HO12003.out).2.2 | (with_reducible refine Kd.C_alloc ?_ _) | (with_reducible refine Kd.C_drewN ?_ _) | (with_reducible refine Kd.C_drew ?_))); (case side2 => exact (Kd.R_reads' HO12003.out).2.1); (case side3 => repeat (first | exact (Kd.R_reads' HO12006.out).2.2 | (with_reducible refine Kd.C_alloc ?_ _) | (with_reducible refine Kd.C_drewN ?_ _) | (with_reducible refine Kd.C_drew ?_))); (case side4 => exact (Kd.R_reads' HO12006.out).2.1); rintro e w35 ⟨v12010, rfl, ho0, hb⟩; refine ⟨_, rfl, ?_⟩; have n0_ := Aside0.mk (Kd.R_elder' (by (with_reducible repeat (first | apply Kd.R_alloc | apply Kd.R_drewN | apply Kd.R_drew)); exact HO12003.out) (Kd.R_base ho0) hb); have n1_ := Aside0.mk (Kd.R_below (by (with_reducible repeat (first | apply Kd.R_alloc | apply Kd.R_drewN | apply Kd.R_drew)); exact HO12006.out) hb); have n2_ := Aside0.mk (Kd.R_lower (Kd.R_new' (Kd.R_new' ho0 (Kd.R_lt (by (with_reducible repeat (first | apply Kd.R_alloc | apply Kd.R_drewN | apply Kd.R_drew)); exact HO12003.out))) (Kd.R_lt (by (with_reducible repeat (first | apply Kd.R_alloc | apply Kd.R_drewN | apply Kd.R_drew)); exact HO12006.out))) (below_size (by repeat (first | (with_reducible first | exact HB.out | apply below_alloc | apply pw_below_drewN | apply below_drew1) | exact HB.out)))); have n3_ := Aside0.mk (below_step (by repeat (first | (with_reducible first | exact HB.out | apply below_alloc | apply pw_below_drewN | apply below_drew1) | exact HB.out)) hb); clear HO12003; clear HO12006; clear HB; have HO12003 := n0_; have HO12006 := n1_; have HO12011 := n2_; have HB := n3_; clear n0_ n1_ n2_ n3_; (try clear hb); (try clear hb2); (try clear hk); (try clear hi); (try clear ho0); obtain ⟨Ao36, co36, eo36⟩ := Kd.R_slice HO12011.out; subst eo36) | ((with_reducible refine gate_callee (f := 19) rfl ?_); refine goesL_ (some 18) rfl rfl Tryd.func19 (by kernel_rfl) rfl #[.slice Ao36 t12007.length co36, .int .i64 t12008, .string (⟨#[100, 105, 115, 107]⟩ : ByteArray), .slice none 0 0] rfl (by (try simp only [List.map_toArray, List.map_cons, List.map_nil]); first | done | rfl | (simp only [List.length_drop, List.length_take]; rfl)) ?_; (refine (tree_Add.calls _ _ t12007 t12008 (⟨#[100, 105, 115, 107]⟩ : ByteArray) _ _ ([] : List Int) t12012 t12013 t12014 _ ?side1 ?side2 ?side3 ?side4 A3.out).mono ?_); (case side1 => repeat (first | exact (Kd.R_reads' HO12011.out).2.2 | (with_reducible refine Kd.C_alloc ?_ _) | (with_reducible refine Kd.C_drewN ?_ _) | (with_reducible refine Kd.C_drew ?_))); (case side2 => exact (Kd.R_reads' HO12011.out).2.1); (case side3 => exact Kd.C_nil _ _); (case side4 => exact Nat.le_refl _); rintro e w37 ⟨v12015, rfl, ho0, hb⟩; refine ⟨_, rfl, ?_⟩; have n0_ := Aside0.mk (Kd.R_elder' (by (with_reducible repeat (first | apply Kd.R_alloc | apply Kd.R_drewN | apply Kd.R_drew)); exact HO12003.out) (Kd.R_base ho0) hb); have n1_ := Aside0.mk (Kd.R_below (by (with_reducible repeat (first | apply Kd.R_alloc | apply Kd.R_drewN | apply Kd.R_drew)); exact HO12006.out) hb); have n2_ := Aside0.mk (Kd.R_elder' (by (with_reducible repeat (first | apply Kd.R_alloc | apply Kd.R_drewN | apply Kd.R_drew)); exact HO12011.out) (Kd.R_base ho0) hb); have n3_ := Aside0.mk (Kd.R_lower (Kd.R_new' (Kd.R_new' (Kd.R_new' ho0 (Kd.R_lt (by (with_reducible repeat (first | apply Kd.R_alloc | apply Kd.R_drewN | apply Kd.R_drew)); exact HO12003.out))) (Kd.R_lt (by (with_reducible repeat (first | apply Kd.R_alloc | apply Kd.R_drewN | apply Kd.R_drew)); exact HO12006.out))) (Kd.R_lt (by (with_reducible repeat (first | apply Kd.R_alloc | apply Kd.R_drewN | apply Kd.R_drew)); exact HO12011.out))) (below_size (by repeat (first | (with_reducible first | exact HB.out | apply below_alloc | apply pw_below_drewN | apply below_drew1) | exact HB.out)))); have n4_ := Aside0.mk (below_step (by repeat (first | (with_reducible first | exact HB.out | apply below_alloc | apply pw_below_drewN | apply below_drew1) | exact HB.out)) hb); clear HO12003; clear HO12006; clear HO12011; clear HB; have HO12003 := n0_; have HO12006 := n1_; have HO12011 := n2_; have HO12016 := n3_; have HB := n4_; clear n0_ n1_ n2_ n3_ n4_; (try clear hb); (try clear hb2); (try clear hk); (try clear hi); (try clear ho0); obtain ⟨Ao38, co38, eo38⟩ := Kd.R_slice HO12016.out; subst eo38) | ((with_reducible refine gate_callee (f := 23) rfl ?_); refine goesL_ (some 25) rfl rfl Tryd.func23 (by kernel_rfl) rfl #[.slice Ao38 t12012.length co38, .int .i64 t12013] rfl (by (try simp only [List.map_toArray, List.map_cons, List.map_nil]); first | done | rfl | (simp only [List.length_drop, List.length_take]; rfl)) ?_; (with_reducible refine (tree_Path.calls _ _ t12012 t12013 t12017 t12018 _ (QB.Tabs.below ht (by repeat (first | (with_reducible first | exact HB.out | apply below_alloc | apply pw_below_drewN | apply below_drew1 | refine below_set ?_ (Aside0.out (by assumption))) | exact HB.out))) ?side1 ?side2 A4.out).mono ?_); (case side1 => repeat (first | exact (Kd.R_reads' HO12016.out).2.2 | (with_reducible refine Kd.C_alloc ?_ _) | (with_reducible refine Kd.C_drewN ?_ _) | (with_reducible refine Kd.C_drew ?_))); (case side2 => exact (Kd.R_reads' HO12016.out).2.1); rintro e w39 ⟨rfl, hb⟩; refine ⟨_, rfl, ?_⟩; have n0_ := Aside0.mk (Kd.R_below (by (with_reducible repeat (first | apply Kd.R_alloc | apply Kd.R_drewN | apply Kd.R_drew)); exact HO12003.out) hb); have n1_ := Aside0.mk (Kd.R_below (by (with_reducible repeat (first | apply Kd.R_alloc | apply Kd.R_drewN | apply Kd.R_drew)); exact HO12006.out) hb); have n2_ := Aside0.mk (Kd.R_below (by (with_reducible repeat (first | apply Kd.R_alloc | apply Kd.R_drewN | apply Kd.R_drew)); exact HO12011.out) hb); have n3_ := Aside0.mk (Kd.R_below (by (with_reducible repeat (first | apply Kd.R_alloc | apply Kd.R_drewN | apply Kd.R_drew)); exact HO12016.out) hb); have n4_ := Aside0.mk (below_step (by repeat (first | (with_reducible first | exact HB.out | apply below_alloc | apply pw_below_drewN | apply below_drew1) | exact HB.out)) hb); clear HO12003; clear HO12006; clear HO12011; clear HO12016; clear HB; have HO12003 := n0_; have HO12006 := n1_; have HO12011 := n2_; have HO12016 := n3_; have HB := n4_; clear n0_ n1_ n2_ n3_ n4_; (try clear hb); (try clear hb2); (try clear hk); (try clear hi)))
          go_ret
          exact ⟨by first | rfl | (simp [errW_none, errW_some] <;> rfl) | (simp [*, errW_none, errW_some] <;> rfl), by repeat (first | (with_reducible first | exact HB.out | apply below_alloc | apply pw_below_drewN | apply below_drew1) | exact HB.out)⟩
      · rw [if_neg c7] at H
        have c7b0 : (t12008 == 1) = false := beq_eq_false_iff_ne.mpr c7
        have c7b1 : (t12008 != 1) = true := bne_iff_ne.mpr c7
        obtain rfl := Option.some.inj H
        go_enter Tryd.func11, Tryd.ntmps11
        go_wp2_with (first | ((with_reducible refine gate_callee (f := 16) rfl ?_); refine goesL_ (some 9) rfl rfl Tryd.func16 (by kernel_rfl) rfl #[] rfl (by (try simp only [List.map_toArray, List.map_cons, List.map_nil]); first | done | rfl | (simp only [List.length_drop, List.length_take]; rfl)) ?_; (with_reducible refine (tree_New.calls  t12001 _ A1.out).mono ?_); rintro e w40 ⟨v12002, rfl, ho0, hb⟩; refine ⟨_, rfl, ?_⟩; have n0_ := Aside0.mk (Kd.R_lower ho0 (below_size (by repeat (first | (with_reducible first | exact HB.out | apply below_alloc | apply pw_below_drewN | apply below_drew1) | exact HB.out)))); have n1_ := Aside0.mk (below_step (by repeat (first | (with_reducible first | exact HB.out | apply below_alloc | apply pw_below_drewN | apply below_drew1) | exact HB.out)) hb); clear HB; have HO12003 := n0_; have HB := n1_; clear n0_ n1_; (try clear hb); (try clear hb2); (try clear hk); (try clear hi); (try clear ho0)) | ((with_reducible refine gate_dst (N := 10) rfl ?_); refine Kd.R_lit (Kd.int .u32) _ 66 ?hg (N := 10) ?hd (xs := ([31] : List Int)) (inner := [.int .u32 31]) (ok := fun _ => True) (okp := fun _ => True) ?hr ?hp (fun _ hk => hk) trivial (Below.refl _ _) (Nat.le_refl _) (by simp) ?_; (case hd => rfl); (case hg => rfl); (case hr => first | (go_simp; done) | (go_simp; rfl)); (case hp => exact (Reps.one (show Kd.M (Kd.int .u32) _ _ _ 31 [.int .u32 31] from rfl) (Reps.none _ _))); intro v12005 w41 ho42 hb hg_ hnew_; clear hg_ hnew_; (first | rw [← Ny12004.out] at ho42 | (simp only [Int.reduceToNat] at ho42; rw [← Ny12004.out] at ho42)); have n0_ := Aside0.mk (Kd.R_elder' (by (with_reducible repeat (first | apply Kd.R_alloc | apply Kd.R_drewN | apply Kd.R_drew)); exact HO12003.out) (Kd.R_base ho42) hb); have n1_ := Aside0.mk (Kd.R_lower ho42 (below_size (by repeat (first | (with_reducible first | exact HB.out | apply below_alloc | apply pw_below_drewN | apply below_drew1) | exact HB.out)))); have n2_ := Aside0.mk (below_step (by repeat (first | (with_reducible first | exact HB.out | apply below_alloc | apply pw_below_drewN | apply below_drew1) | exact HB.out)) hb); clear HO12003; clear HB; have HO12003 := n0_; have HO12006 := n1_; have HB := n2_; clear n0_ n1_ n2_; clear hb ho42; obtain ⟨Ao43, co43, eo43⟩ := Kd.R_slice HO12003.out; subst eo43; obtain ⟨Ao44, co44, eo44⟩ := Kd.R_slice HO12006.out; subst eo44) | ((with_reducible refine gate_callee (f := 19) rfl ?_); refine goesL_ (some 11) rfl rfl Tryd.func19 (by kernel_rfl) rfl #[.slice Ao43 t12001.length co43, .int .i64 0, .string (⟨#[112, 99, 105]⟩ : ByteArray), .slice Ao44 y12004.length co44] rfl (by (try simp only [List.map_toArray, List.map_cons, List.map_nil]); first | done | rfl | (simp only [List.length_drop, List.length_take]; rfl)) ?_; (with_reducible refine (tree_Add.calls _ _ t12001 0 (⟨#[112, 99, 105]⟩ : ByteArray) _ _ y12004 t12007 t12008 t12009 _ ?side1 ?side2 ?side3 ?side4 A2.out).mono ?_); (case side1 => repeat (first | exact (Kd.R_reads' HO12003.out).2.2 | (with_reducible refine Kd.C_alloc ?_ _) | (with_reducible refine Kd.C_drewN ?_ _) | (with_reducible refine Kd.C_drew ?_))); (case side2 => exact (Kd.R_reads' HO12003.out).2.1); (case side3 => repeat (first | exact (Kd.R_reads' HO12006.out).2.2 | (with_reducible refine Kd.C_alloc ?_ _) | (with_reducible refine Kd.C_drewN ?_ _) | (with_reducible refine Kd.C_drew ?_))); (case side4 => exact (Kd.R_reads' HO12006.out).2.1); rintro e w45 ⟨v12010, rfl, ho0, hb⟩; refine ⟨_, rfl, ?_⟩; have n0_ := Aside0.mk (Kd.R_elder' (by (with_reducible repeat (first | apply Kd.R_alloc | apply Kd.R_drewN | apply Kd.R_drew)); exact HO12003.out) (Kd.R_base ho0) hb); have n1_ := Aside0.mk (Kd.R_below (by (with_reducible repeat (first | apply Kd.R_alloc | apply Kd.R_drewN | apply Kd.R_drew)); exact HO12006.out) hb); have n2_ := Aside0.mk (Kd.R_lower (Kd.R_new' (Kd.R_new' ho0 (Kd.R_lt (by (with_reducible repeat (first | apply Kd.R_alloc | apply Kd.R_drewN | apply Kd.R_drew)); exact HO12003.out))) (Kd.R_lt (by (with_reducible repeat (first | apply Kd.R_alloc | apply Kd.R_drewN | apply Kd.R_drew)); exact HO12006.out))) (below_size (by repeat (first | (with_reducible first | exact HB.out | apply below_alloc | apply pw_below_drewN | apply below_drew1) | exact HB.out)))); have n3_ := Aside0.mk (below_step (by repeat (first | (with_reducible first | exact HB.out | apply below_alloc | apply pw_below_drewN | apply below_drew1) | exact HB.out)) hb); clear HO12003; clear HO12006; clear HB; have HO12003 := n0_; have HO12006 := n1_; have HO12011 := n2_; have HB := n3_; clear n0_ n1_ n2_ n3_; (try clear hb); (try clear hb2); (try clear hk); (try clear hi); (try clear ho0); obtain ⟨Ao46, co46, eo46⟩ := Kd.R_slice HO12011.out; subst eo46) | ((with_reducible refine gate_callee (f := 19) rfl ?_); refine goesL_ (some 18) rfl rfl Tryd.func19 (by kernel_rfl) rfl #[.slice Ao46 t12007.length co46, .int .i64 t12008, .string (⟨#[100, 105, 115, 107]⟩ : ByteArray), .slice none 0 0] rfl (by (try simp only [List.map_toArray, List.map_cons, List.map_nil]); first | done | rfl | (simp only [List.length_drop, List.length_take]; rfl)) ?_; (refine (tree_Add.calls _ _ t12007 t12008 (⟨#[100, 105, 115, 107]⟩ : ByteArray) _ _ ([] : List Int) t12012 t12013 t12014 _ ?side1 ?side2 ?side3 ?side4 A3.out).mono ?_); (case side1 => repeat (first | exact (Kd.R_reads' HO12011.out).2.2 | (with_reducible refine Kd.C_alloc ?_ _) | (with_reducible refine Kd.C_drewN ?_ _) | (with_reducible refine Kd.C_drew ?_))); (case side2 => exact (Kd.R_reads' HO12011.out).2.1); (case side3 => exact Kd.C_nil _ _); (case side4 => exact Nat.le_refl _); rintro e w47 ⟨v12015, rfl, ho0, hb⟩; refine ⟨_, rfl, ?_⟩; have n0_ := Aside0.mk (Kd.R_elder' (by (with_reducible repeat (first | apply Kd.R_alloc | apply Kd.R_drewN | apply Kd.R_drew)); exact HO12003.out) (Kd.R_base ho0) hb); have n1_ := Aside0.mk (Kd.R_below (by (with_reducible repeat (first | apply Kd.R_alloc | apply Kd.R_drewN | apply Kd.R_drew)); exact HO12006.out) hb); have n2_ := Aside0.mk (Kd.R_elder' (by (with_reducible repeat (first | apply Kd.R_alloc | apply Kd.R_drewN | apply Kd.R_drew)); exact HO12011.out) (Kd.R_base ho0) hb); have n3_ := Aside0.mk (Kd.R_lower (Kd.R_new' (Kd.R_new' (Kd.R_new' ho0 (Kd.R_lt (by (with_reducible repeat (first | apply Kd.R_alloc | apply Kd.R_drewN | apply Kd.R_drew)); exact HO12003.out))) (Kd.R_lt (by (with_reducible repeat (first | apply Kd.R_alloc | apply Kd.R_drewN | apply Kd.R_drew)); exact HO12006.out))) (Kd.R_lt (by (with_reducible repeat (first | apply Kd.R_alloc | apply Kd.R_drewN | apply Kd.R_drew)); exact HO12011.out))) (below_size (by repeat (first | (with_reducible first | exact HB.out | apply below_alloc | apply pw_below_drewN | apply below_drew1) | exact HB.out)))); have n4_ := Aside0.mk (below_step (by repeat (first | (with_reducible first | exact HB.out | apply below_alloc | apply pw_below_drewN | apply below_drew1) | exact HB.out)) hb); clear HO12003; clear HO12006; clear HO12011; clear HB; have HO12003 := n0_; have HO12006 := n1_; have HO12011 := n2_; have HO12016 := n3_; have HB := n4_; clear n0_ n1_ n2_ n3_ n4_; (try clear hb); (try clear hb2); (try clear hk); (try clear hi); (try clear ho0); obtain ⟨Ao48, co48, eo48⟩ := Kd.R_slice HO12016.out; subst eo48) | ((with_reducible refine gate_callee (f := 23) rfl ?_); refine goesL_ (some 25) rfl rfl Tryd.func23 (by kernel_rfl) rfl #[.slice Ao48 t12012.length co48, .int .i64 t12013] rfl (by (try simp only [List.map_toArray, List.map_cons, List.map_nil]); first | done | rfl | (simp only [List.length_drop, List.length_take]; rfl)) ?_; (with_reducible refine (tree_Path.calls _ _ t12012 t12013 t12017 t12018 _ (QB.Tabs.below ht (by repeat (first | (with_reducible first | exact HB.out | apply below_alloc | apply pw_below_drewN | apply below_drew1 | refine below_set ?_ (Aside0.out (by assumption))) | exact HB.out))) ?side1 ?side2 A4.out).mono ?_); (case side1 => repeat (first | exact (Kd.R_reads' HO12016.out).2.2 | (with_reducible refine Kd.C_alloc ?_ _) | (with_reducible refine Kd.C_drewN ?_ _) | (with_reducible refine Kd.C_drew ?_))); (case side2 => exact (Kd.R_reads' HO12016.out).2.1); rintro e w49 ⟨rfl, hb⟩; refine ⟨_, rfl, ?_⟩; have n0_ := Aside0.mk (Kd.R_below (by (with_reducible repeat (first | apply Kd.R_alloc | apply Kd.R_drewN | apply Kd.R_drew)); exact HO12003.out) hb); have n1_ := Aside0.mk (Kd.R_below (by (with_reducible repeat (first | apply Kd.R_alloc | apply Kd.R_drewN | apply Kd.R_drew)); exact HO12006.out) hb); have n2_ := Aside0.mk (Kd.R_below (by (with_reducible repeat (first | apply Kd.R_alloc | apply Kd.R_drewN | apply Kd.R_drew)); exact HO12011.out) hb); have n3_ := Aside0.mk (Kd.R_below (by (with_reducible repeat (first | apply Kd.R_alloc | apply Kd.R_drewN | apply Kd.R_drew)); exact HO12016.out) hb); have n4_ := Aside0.mk (below_step (by repeat (first | (with_reducible first | exact HB.out | apply below_alloc | apply pw_below_drewN | apply below_drew1) | exact HB.out)) hb); clear HO12003; clear HO12006; clear HO12011; clear HO12016; clear HB; have HO12003 := n0_; have HO12006 := n1_; have HO12011 := n2_; have HO12016 := n3_; have HB := n4_; clear n0_ n1_ n2_ n3_ n4_; (try clear hb); (try clear hb2); (try clear hk); (try clear hi)))
        go_ret
        exact ⟨by first | rfl | (simp [errW_none, errW_some] <;> rfl) | (simp [*, errW_none, errW_some] <;> rfl), by repeat (first | (with_reducible first | exact HB.out | apply below_alloc | apply pw_below_drewN | apply below_drew1) | exact HB.out)⟩
    · rw [if_neg c6] at H
      have c6b0 : (t12014 == 0) = false := beq_eq_false_iff_ne.mpr c6
      have c6b1 : (t12014 != 0) = true := bne_iff_ne.mpr c6
      obtain rfl := Option.some.inj H
      go_enter Tryd.func11, Tryd.ntmps11
      go_wp2_with (first | ((with_reducible refine gate_callee (f := 16) rfl ?_); refine goesL_ (some 9) rfl rfl Tryd.func16 (by kernel_rfl) rfl #[] rfl (by (try simp only [List.map_toArray, List.map_cons, List.map_nil]); first | done | rfl | (simp only [List.length_drop, List.length_take]; rfl)) ?_; (with_reducible refine (tree_New.calls  t12001 _ A1.out).mono ?_); rintro e w50 ⟨v12002, rfl, ho0, hb⟩; refine ⟨_, rfl, ?_⟩; have n0_ := Aside0.mk (Kd.R_lower ho0 (below_size (by repeat (first | (with_reducible first | exact HB.out | apply below_alloc | apply pw_below_drewN | apply below_drew1) | exact HB.out)))); have n1_ := Aside0.mk (below_step (by repeat (first | (with_reducible first | exact HB.out | apply below_alloc | apply pw_below_drewN | apply below_drew1) | exact HB.out)) hb); clear HB; have HO12003 := n0_; have HB := n1_; clear n0_ n1_; (try clear hb); (try clear hb2); (try clear hk); (try clear hi); (try clear ho0)) | ((with_reducible refine gate_dst (N := 10) rfl ?_); refine Kd.R_lit (Kd.int .u32) _ 66 ?hg (N := 10) ?hd (xs := ([31] : List Int)) (inner := [.int .u32 31]) (ok := fun _ => True) (okp := fun _ => True) ?hr ?hp (fun _ hk => hk) trivial (Below.refl _ _) (Nat.le_refl _) (by simp) ?_; (case hd => rfl); (case hg => rfl); (case hr => first | (go_simp; done) | (go_simp; rfl)); (case hp => exact (Reps.one (show Kd.M (Kd.int .u32) _ _ _ 31 [.int .u32 31] from rfl) (Reps.none _ _))); intro v12005 w51 ho52 hb hg_ hnew_; clear hg_ hnew_; (first | rw [← Ny12004.out] at ho52 | (simp only [Int.reduceToNat] at ho52; rw [← Ny12004.out] at ho52)); have n0_ := Aside0.mk (Kd.R_elder' (by (with_reducible repeat (first | apply Kd.R_alloc | apply Kd.R_drewN | apply Kd.R_drew)); exact HO12003.out) (Kd.R_base ho52) hb); have n1_ := Aside0.mk (Kd.R_lower ho52 (below_size (by repeat (first | (with_reducible first | exact HB.out | apply below_alloc | apply pw_below_drewN | apply below_drew1) | exact HB.out)))); have n2_ := Aside0.mk (below_step (by repeat (first | (with_reducible first | exact HB.out | apply below_alloc | apply pw_below_drewN | apply below_drew1) | exact HB.out)) hb); clear HO12003; clear HB; have HO12003 := n0_; have HO12006 := n1_; have HB := n2_; clear n0_ n1_ n2_; clear hb ho52; obtain ⟨Ao53, co53, eo53⟩ := Kd.R_slice HO12003.out; subst eo53; obtain ⟨Ao54, co54, eo54⟩ := Kd.R_slice HO12006.out; subst eo54) | ((with_reducible refine gate_callee (f := 19) rfl ?_); refine goesL_ (some 11) rfl rfl Tryd.func19 (by kernel_rfl) rfl #[.slice Ao53 t12001.length co53, .int .i64 0, .string (⟨#[112, 99, 105]⟩ : ByteArray), .slice Ao54 y12004.length co54] rfl (by (try simp only [List.map_toArray, List.map_cons, List.map_nil]); first | done | rfl | (simp only [List.length_drop, List.length_take]; rfl)) ?_; (with_reducible refine (tree_Add.calls _ _ t12001 0 (⟨#[112, 99, 105]⟩ : ByteArray) _ _ y12004 t12007 t12008 t12009 _ ?side1 ?side2 ?side3 ?side4 A2.out).mono ?_); (case side1 => repeat (first | exact (Kd.R_reads' HO12003.out).2.2 | (with_reducible refine Kd.C_alloc ?_ _) | (with_reducible refine Kd.C_drewN ?_ _) | (with_reducible refine Kd.C_drew ?_))); (case side2 => exact (Kd.R_reads' HO12003.out).2.1); (case side3 => repeat (first | exact (Kd.R_reads' HO12006.out).2.2 | (with_reducible refine Kd.C_alloc ?_ _) | (with_reducible refine Kd.C_drewN ?_ _) | (with_reducible refine Kd.C_drew ?_))); (case side4 => exact (Kd.R_reads' HO12006.out).2.1); rintro e w55 ⟨v12010, rfl, ho0, hb⟩; refine ⟨_, rfl, ?_⟩; have n0_ := Aside0.mk (Kd.R_elder' (by (with_reducible repeat (first | apply Kd.R_alloc | apply Kd.R_drewN | apply Kd.R_drew)); exact HO12003.out) (Kd.R_base ho0) hb); have n1_ := Aside0.mk (Kd.R_below (by (with_reducible repeat (first | apply Kd.R_alloc | apply Kd.R_drewN | apply Kd.R_drew)); exact HO12006.out) hb); have n2_ := Aside0.mk (Kd.R_lower (Kd.R_new' (Kd.R_new' ho0 (Kd.R_lt (by (with_reducible repeat (first | apply Kd.R_alloc | apply Kd.R_drewN | apply Kd.R_drew)); exact HO12003.out))) (Kd.R_lt (by (with_reducible repeat (first | apply Kd.R_alloc | apply Kd.R_drewN | apply Kd.R_drew)); exact HO12006.out))) (below_size (by repeat (first | (with_reducible first | exact HB.out | apply below_alloc | apply pw_below_drewN | apply below_drew1) | exact HB.out)))); have n3_ := Aside0.mk (below_step (by repeat (first | (with_reducible first | exact HB.out | apply below_alloc | apply pw_below_drewN | apply below_drew1) | exact HB.out)) hb); clear HO12003; clear HO12006; clear HB; have HO12003 := n0_; have HO12006 := n1_; have HO12011 := n2_; have HB := n3_; clear n0_ n1_ n2_ n3_; (try clear hb); (try clear hb2); (try clear hk); (try clear hi); (try clear ho0); obtain ⟨Ao56, co56, eo56⟩ := Kd.R_slice HO12011.out; subst eo56) | ((with_reducible refine gate_callee (f := 19) rfl ?_); refine goesL_ (some 18) rfl rfl Tryd.func19 (by kernel_rfl) rfl #[.slice Ao56 t12007.length co56, .int .i64 t12008, .string (⟨#[100, 105, 115, 107]⟩ : ByteArray), .slice none 0 0] rfl (by (try simp only [List.map_toArray, List.map_cons, List.map_nil]); first | done | rfl | (simp only [List.length_drop, List.length_take]; rfl)) ?_; (refine (tree_Add.calls _ _ t12007 t12008 (⟨#[100, 105, 115, 107]⟩ : ByteArray) _ _ ([] : List Int) t12012 t12013 t12014 _ ?side1 ?side2 ?side3 ?side4 A3.out).mono ?_); (case side1 => repeat (first | exact (Kd.R_reads' HO12011.out).2.2 | (with_reducible refine Kd.C_alloc ?_ _) | (with_reducible refine Kd.C_drewN ?_ _) | (with_reducible refine Kd.C_drew ?_))); (case side2 => exact (Kd.R_reads' HO12011.out).2.1); (case side3 => exact Kd.C_nil _ _); (case side4 => exact Nat.le_refl _); rintro e w57 ⟨v12015, rfl, ho0, hb⟩; refine ⟨_, rfl, ?_⟩; have n0_ := Aside0.mk (Kd.R_elder' (by (with_reducible repeat (first | apply Kd.R_alloc | apply Kd.R_drewN | apply Kd.R_drew)); exact HO12003.out) (Kd.R_base ho0) hb); have n1_ := Aside0.mk (Kd.R_below (by (with_reducible repeat (first | apply Kd.R_alloc | apply Kd.R_drewN | apply Kd.R_drew)); exact HO12006.out) hb); have n2_ := Aside0.mk (Kd.R_elder' (by (with_reducible repeat (first | apply Kd.R_alloc | apply Kd.R_drewN | apply Kd.R_drew)); exact HO12011.out) (Kd.R_base ho0) hb); have n3_ := Aside0.mk (Kd.R_lower (Kd.R_new' (Kd.R_new' (Kd.R_new' ho0 (Kd.R_lt (by (with_reducible repeat (first | apply Kd.R_alloc | apply Kd.R_drewN | apply Kd.R_drew)); exact HO12003.out))) (Kd.R_lt (by (with_reducible repeat (first | apply Kd.R_alloc | apply Kd.R_drewN | apply Kd.R_drew)); exact HO12006.out))) (Kd.R_lt (by (with_reducible repeat (first | apply Kd.R_alloc | apply Kd.R_drewN | apply Kd.R_drew)); exact HO12011.out))) (below_size (by repeat (first | (with_reducible first | exact HB.out | apply below_alloc | apply pw_below_drewN | apply below_drew1) | exact HB.out)))); have n4_ := Aside0.mk (below_step (by repeat (first | (with_reducible first | exact HB.out | apply below_alloc | apply pw_below_drewN | apply below_drew1) | exact HB.out)) hb); clear HO12003; clear HO12006; clear HO12011; clear HB; have HO12003 := n0_; have HO12006 := n1_; have HO12011 := n2_; have HO12016 := n3_; have HB := n4_; clear n0_ n1_ n2_ n3_ n4_; (try clear hb); (try clear hb2); (try clear hk); (try clear hi); (try clear ho0); obtain ⟨Ao58, co58, eo58⟩ := Kd.R_slice HO12016.out; subst eo58) | ((with_reducible refine gate_callee (f := 23) rfl ?_); refine goesL_ (some 25) rfl rfl Tryd.func23 (by kernel_rfl) rfl #[.slice Ao58 t12012.length co58, .int .i64 t12013] rfl (by (try simp only [List.map_toArray, List.map_cons, List.map_nil]); first | done | rfl | (simp only [List.length_drop, List.length_take]; rfl)) ?_; (with_reducible refine (tree_Path.calls _ _ t12012 t12013 t12017 t12018 _ (QB.Tabs.below ht (by repeat (first | (with_reducible first | exact HB.out | apply below_alloc | apply pw_below_drewN | apply below_drew1 | refine below_set ?_ (Aside0.out (by assumption))) | exact HB.out))) ?side1 ?side2 A4.out).mono ?_); (case side1 => repeat (first | exact (Kd.R_reads' HO12016.out).2.2 | (with_reducible refine Kd.C_alloc ?_ _) | (with_reducible refine Kd.C_drewN ?_ _) | (with_reducible refine Kd.C_drew ?_))); (case side2 => exact (Kd.R_reads' HO12016.out).2.1); rintro e w59 ⟨rfl, hb⟩; refine ⟨_, rfl, ?_⟩; have n0_ := Aside0.mk (Kd.R_below (by (with_reducible repeat (first | apply Kd.R_alloc | apply Kd.R_drewN | apply Kd.R_drew)); exact HO12003.out) hb); have n1_ := Aside0.mk (Kd.R_below (by (with_reducible repeat (first | apply Kd.R_alloc | apply Kd.R_drewN | apply Kd.R_drew)); exact HO12006.out) hb); have n2_ := Aside0.mk (Kd.R_below (by (with_reducible repeat (first | apply Kd.R_alloc | apply Kd.R_drewN | apply Kd.R_drew)); exact HO12011.out) hb); have n3_ := Aside0.mk (Kd.R_below (by (with_reducible repeat (first | apply Kd.R_alloc | apply Kd.R_drewN | apply Kd.R_drew)); exact HO12016.out) hb); have n4_ := Aside0.mk (below_step (by repeat (first | (with_reducible first | exact HB.out | apply below_alloc | apply pw_below_drewN | apply below_drew1) | exact HB.out)) hb); clear HO12003; clear HO12006; clear HO12011; clear HO12016; clear HB; have HO12003 := n0_; have HO12006 := n1_; have HO12011 := n2_; have HO12016 := n3_; have HB := n4_; clear n0_ n1_ n2_ n3_ n4_; (try clear hb); (try clear hb2); (try clear hk); (try clear hi)))
      go_ret
      exact ⟨by first | rfl | (simp [errW_none, errW_some] <;> rfl) | (simp [*, errW_none, errW_some] <;> rfl), by repeat (first | (with_reducible first | exact HB.out | apply below_alloc | apply pw_below_drewN | apply below_drew1) | exact HB.out)⟩
  · rw [if_neg c5] at H
    have c5b0 : (t12009 == 0) = false := beq_eq_false_iff_ne.mpr c5
    have c5b1 : (t12009 != 0) = true := bne_iff_ne.mpr c5
    obtain rfl := Option.some.inj H
    go_enter Tryd.func11, Tryd.ntmps11
    go_wp2_with (first | ((with_reducible refine gate_callee (f := 16) rfl ?_); refine goesL_ (some 9) rfl rfl Tryd.func16 (by kernel_rfl) rfl #[] rfl (by (try simp only [List.map_toArray, List.map_cons, List.map_nil]); first | done | rfl | (simp only [List.length_drop, List.length_take]; rfl)) ?_; (with_reducible refine (tree_New.calls  t12001 _ A1.out).mono ?_); rintro e w60 ⟨v12002, rfl, ho0, hb⟩; refine ⟨_, rfl, ?_⟩; have n0_ := Aside0.mk (Kd.R_lower ho0 (below_size (by repeat (first | (with_reducible first | exact HB.out | apply below_alloc | apply pw_below_drewN | apply below_drew1) | exact HB.out)))); have n1_ := Aside0.mk (below_step (by repeat (first | (with_reducible first | exact HB.out | apply below_alloc | apply pw_below_drewN | apply below_drew1) | exact HB.out)) hb); clear HB; have HO12003 := n0_; have HB := n1_; clear n0_ n1_; (try clear hb); (try clear hb2); (try clear hk); (try clear hi); (try clear ho0)) | ((with_reducible refine gate_dst (N := 10) rfl ?_); refine Kd.R_lit (Kd.int .u32) _ 66 ?hg (N := 10) ?hd (xs := ([31] : List Int)) (inner := [.int .u32 31]) (ok := fun _ => True) (okp := fun _ => True) ?hr ?hp (fun _ hk => hk) trivial (Below.refl _ _) (Nat.le_refl _) (by simp) ?_; (case hd => rfl); (case hg => rfl); (case hr => first | (go_simp; done) | (go_simp; rfl)); (case hp => exact (Reps.one (show Kd.M (Kd.int .u32) _ _ _ 31 [.int .u32 31] from rfl) (Reps.none _ _))); intro v12005 w61 ho62 hb hg_ hnew_; clear hg_ hnew_; (first | rw [← Ny12004.out] at ho62 | (simp only [Int.reduceToNat] at ho62; rw [← Ny12004.out] at ho62)); have n0_ := Aside0.mk (Kd.R_elder' (by (with_reducible repeat (first | apply Kd.R_alloc | apply Kd.R_drewN | apply Kd.R_drew)); exact HO12003.out) (Kd.R_base ho62) hb); have n1_ := Aside0.mk (Kd.R_lower ho62 (below_size (by repeat (first | (with_reducible first | exact HB.out | apply below_alloc | apply pw_below_drewN | apply below_drew1) | exact HB.out)))); have n2_ := Aside0.mk (below_step (by repeat (first | (with_reducible first | exact HB.out | apply below_alloc | apply pw_below_drewN | apply below_drew1) | exact HB.out)) hb); clear HO12003; clear HB; have HO12003 := n0_; have HO12006 := n1_; have HB := n2_; clear n0_ n1_ n2_; clear hb ho62; obtain ⟨Ao63, co63, eo63⟩ := Kd.R_slice HO12003.out; subst eo63; obtain ⟨Ao64, co64, eo64⟩ := Kd.R_slice HO12006.out; subst eo64) | ((with_reducible refine gate_callee (f := 19) rfl ?_); refine goesL_ (some 11) rfl rfl Tryd.func19 (by kernel_rfl) rfl #[.slice Ao63 t12001.length co63, .int .i64 0, .string (⟨#[112, 99, 105]⟩ : ByteArray), .slice Ao64 y12004.length co64] rfl (by (try simp only [List.map_toArray, List.map_cons, List.map_nil]); first | done | rfl | (simp only [List.length_drop, List.length_take]; rfl)) ?_; (with_reducible refine (tree_Add.calls _ _ t12001 0 (⟨#[112, 99, 105]⟩ : ByteArray) _ _ y12004 t12007 t12008 t12009 _ ?side1 ?side2 ?side3 ?side4 A2.out).mono ?_); (case side1 => repeat (first | exact (Kd.R_reads' HO12003.out).2.2 | (with_reducible refine Kd.C_alloc ?_ _) | (with_reducible refine Kd.C_drewN ?_ _) | (with_reducible refine Kd.C_drew ?_))); (case side2 => exact (Kd.R_reads' HO12003.out).2.1); (case side3 => repeat (first | exact (Kd.R_reads' HO12006.out).2.2 | (with_reducible refine Kd.C_alloc ?_ _) | (with_reducible refine Kd.C_drewN ?_ _) | (with_reducible refine Kd.C_drew ?_))); (case side4 => exact (Kd.R_reads' HO12006.out).2.1); rintro e w65 ⟨v12010, rfl, ho0, hb⟩; refine ⟨_, rfl, ?_⟩; have n0_ := Aside0.mk (Kd.R_elder' (by (with_reducible repeat (first | apply Kd.R_alloc | apply Kd.R_drewN | apply Kd.R_drew)); exact HO12003.out) (Kd.R_base ho0) hb); have n1_ := Aside0.mk (Kd.R_below (by (with_reducible repeat (first | apply Kd.R_alloc | apply Kd.R_drewN | apply Kd.R_drew)); exact HO12006.out) hb); have n2_ := Aside0.mk (Kd.R_lower (Kd.R_new' (Kd.R_new' ho0 (Kd.R_lt (by (with_reducible repeat (first | apply Kd.R_alloc | apply Kd.R_drewN | apply Kd.R_drew)); exact HO12003.out))) (Kd.R_lt (by (with_reducible repeat (first | apply Kd.R_alloc | apply Kd.R_drewN | apply Kd.R_drew)); exact HO12006.out))) (below_size (by repeat (first | (with_reducible first | exact HB.out | apply below_alloc | apply pw_below_drewN | apply below_drew1) | exact HB.out)))); have n3_ := Aside0.mk (below_step (by repeat (first | (with_reducible first | exact HB.out | apply below_alloc | apply pw_below_drewN | apply below_drew1) | exact HB.out)) hb); clear HO12003; clear HO12006; clear HB; have HO12003 := n0_; have HO12006 := n1_; have HO12011 := n2_; have HB := n3_; clear n0_ n1_ n2_ n3_; (try clear hb); (try clear hb2); (try clear hk); (try clear hi); (try clear ho0); obtain ⟨Ao66, co66, eo66⟩ := Kd.R_slice HO12011.out; subst eo66) | ((with_reducible refine gate_callee (f := 19) rfl ?_); refine goesL_ (some 18) rfl rfl Tryd.func19 (by kernel_rfl) rfl #[.slice Ao66 t12007.length co66, .int .i64 t12008, .string (⟨#[100, 105, 115, 107]⟩ : ByteArray), .slice none 0 0] rfl (by (try simp only [List.map_toArray, List.map_cons, List.map_nil]); first | done | rfl | (simp only [List.length_drop, List.length_take]; rfl)) ?_; (refine (tree_Add.calls _ _ t12007 t12008 (⟨#[100, 105, 115, 107]⟩ : ByteArray) _ _ ([] : List Int) t12012 t12013 t12014 _ ?side1 ?side2 ?side3 ?side4 A3.out).mono ?_); (case side1 => repeat (first | exact (Kd.R_reads' HO12011.out).2.2 | (with_reducible refine Kd.C_alloc ?_ _) | (with_reducible refine Kd.C_drewN ?_ _) | (with_reducible refine Kd.C_drew ?_))); (case side2 => exact (Kd.R_reads' HO12011.out).2.1); (case side3 => exact Kd.C_nil _ _); (case side4 => exact Nat.le_refl _); rintro e w67 ⟨v12015, rfl, ho0, hb⟩; refine ⟨_, rfl, ?_⟩; have n0_ := Aside0.mk (Kd.R_elder' (by (with_reducible repeat (first | apply Kd.R_alloc | apply Kd.R_drewN | apply Kd.R_drew)); exact HO12003.out) (Kd.R_base ho0) hb); have n1_ := Aside0.mk (Kd.R_below (by (with_reducible repeat (first | apply Kd.R_alloc | apply Kd.R_drewN | apply Kd.R_drew)); exact HO12006.out) hb); have n2_ := Aside0.mk (Kd.R_elder' (by (with_reducible repeat (first | apply Kd.R_alloc | apply Kd.R_drewN | apply Kd.R_drew)); exact HO12011.out) (Kd.R_base ho0) hb); have n3_ := Aside0.mk (Kd.R_lower (Kd.R_new' (Kd.R_new' (Kd.R_new' ho0 (Kd.R_lt (by (with_reducible repeat (first | apply Kd.R_alloc | apply Kd.R_drewN | apply Kd.R_drew)); exact HO12003.out))) (Kd.R_lt (by (with_reducible repeat (first | apply Kd.R_alloc | apply Kd.R_drewN | apply Kd.R_drew)); exact HO12006.out))) (Kd.R_lt (by (with_reducible repeat (first | apply Kd.R_alloc | apply Kd.R_drewN | apply Kd.R_drew)); exact HO12011.out))) (below_size (by repeat (first | (with_reducible first | exact HB.out | apply below_alloc | apply pw_below_drewN | apply below_drew1) | exact HB.out)))); have n4_ := Aside0.mk (below_step (by repeat (first | (with_reducible first | exact HB.out | apply below_alloc | apply pw_below_drewN | apply below_drew1) | exact HB.out)) hb); clear HO12003; clear HO12006; clear HO12011; clear HB; have HO12003 := n0_; have HO12006 := n1_; have HO12011 := n2_; have HO12016 := n3_; have HB := n4_; clear n0_ n1_ n2_ n3_ n4_; (try clear hb); (try clear hb2); (try clear hk); (try clear hi); (try clear ho0); obtain ⟨Ao68, co68, eo68⟩ := Kd.R_slice HO12016.out; subst eo68) | ((with_reducible refine gate_callee (f := 23) rfl ?_); refine goesL_ (some 25) rfl rfl Tryd.func23 (by kernel_rfl) rfl #[.slice Ao68 t12012.length co68, .int .i64 t12013] rfl (by (try simp only [List.map_toArray, List.map_cons, List.map_nil]); first | done | rfl | (simp only [List.length_drop, List.length_take]; rfl)) ?_; (with_reducible refine (tree_Path.calls _ _ t12012 t12013 t12017 t12018 _ (QB.Tabs.below ht (by repeat (first | (with_reducible first | exact HB.out | apply below_alloc | apply pw_below_drewN | apply below_drew1 | refine below_set ?_ (Aside0.out (by assumption))) | exact HB.out))) ?side1 ?side2 A4.out).mono ?_); (case side1 => repeat (first | exact (Kd.R_reads' HO12016.out).2.2 | (with_reducible refine Kd.C_alloc ?_ _) | (with_reducible refine Kd.C_drewN ?_ _) | (with_reducible refine Kd.C_drew ?_))); (case side2 => exact (Kd.R_reads' HO12016.out).2.1); rintro e w69 ⟨rfl, hb⟩; refine ⟨_, rfl, ?_⟩; have n0_ := Aside0.mk (Kd.R_below (by (with_reducible repeat (first | apply Kd.R_alloc | apply Kd.R_drewN | apply Kd.R_drew)); exact HO12003.out) hb); have n1_ := Aside0.mk (Kd.R_below (by (with_reducible repeat (first | apply Kd.R_alloc | apply Kd.R_drewN | apply Kd.R_drew)); exact HO12006.out) hb); have n2_ := Aside0.mk (Kd.R_below (by (with_reducible repeat (first | apply Kd.R_alloc | apply Kd.R_drewN | apply Kd.R_drew)); exact HO12011.out) hb); have n3_ := Aside0.mk (Kd.R_below (by (with_reducible repeat (first | apply Kd.R_alloc | apply Kd.R_drewN | apply Kd.R_drew)); exact HO12016.out) hb); have n4_ := Aside0.mk (below_step (by repeat (first | (with_reducible first | exact HB.out | apply below_alloc | apply pw_below_drewN | apply below_drew1) | exact HB.out)) hb); clear HO12003; clear HO12006; clear HO12011; clear HO12016; clear HB; have HO12003 := n0_; have HO12006 := n1_; have HO12011 := n2_; have HO12016 := n3_; have HB := n4_; clear n0_ n1_ n2_ n3_ n4_; (try clear hb); (try clear hb2); (try clear hk); (try clear hi)))
    go_ret
    exact ⟨by first | rfl | (simp [errW_none, errW_some] <;> rfl) | (simp [*, errW_none, errW_some] <;> rfl), by repeat (first | (with_reducible first | exact HB.out | apply below_alloc | apply pw_below_drewN | apply below_drew1) | exact HB.out)⟩

end Go.Proofs.YtnalcjgefbelnaaDoor.Q
end
section
set_option linter.unusedSimpArgs false
set_option linter.unusedVariables false
namespace Go.Proofs.YtnalcjgefbelnaaDoor.Q
open Go.RowKit Go.Proofs.YtnalcjgefbelnaaDoorW.PrintWords Go.Proofs.YtnalcjgefbelnaaDoorW.PrintLast
def aT1 : List S44 := [⟨⟨#[]⟩, [], -1, [], []⟩, ⟨⟨#[112, 99, 105]⟩, [31], 0, [], []⟩]
def aT2 : List S44 := [⟨⟨#[]⟩, [], -1, [], []⟩, ⟨⟨#[112, 99, 105]⟩, [31], 0, [], []⟩, ⟨⟨#[100, 105, 115, 107]⟩, [], 1, [], []⟩]
def aS : List S49 := [⟨⟨#[112, 99, 105]⟩, [31], ⟨#[]⟩⟩, ⟨⟨#[100, 105, 115, 107]⟩, [], ⟨#[]⟩⟩]
theorem units31 : unitsL [31] = [49, 102] := by
  rw [units_one]
  unfold shL
  rw [showL_big (by decide) (by decide), showL_small (by decide)]
  rfl
theorem pathAS : pathL aS = [47, 112, 99, 105, 64, 49, 102, 47, 100, 105, 115, 107] := by
  show stepB ⟨⟨#[112, 99, 105]⟩, [31], ⟨#[]⟩⟩ ++ (stepB ⟨⟨#[100, 105, 115, 107]⟩, [], ⟨#[]⟩⟩ ++ []) = _
  unfold stepB
  dsimp only
  rw [units31]
  rfl
theorem showAS : showP aS = (⟨#[47, 112, 99, 105, 64, 49, 102, 47, 100, 105, 115, 107]⟩, 0) := by
  unfold showP
  rw [pathAS, if_neg (by decide), if_pos (by kernel_rfl), if_neg (by decide)]
theorem okAS : pathOk aS = true := by
  unfold pathOk
  rw [pathAS]
  kernel_rfl
theorem path_alive : tree_Path.f aT2 2 = some (⟨#[47, 112, 99, 105, 64, 49, 102, 47, 100, 105, 115, 107]⟩, 0) := by
  unfold tree_Path.f
  rw [show tree_check.f aT2 2 = some 0 by kernel_rfl, Option.bind_some, if_pos rfl, show (upF aT2 (2 : Int).toNat 2).reverse = aS by kernel_rfl, okAS, if_pos rfl, showAS]
theorem alive08_f : tinderlaw08_alive.f = some true := by
  unfold tinderlaw08_alive.f
  rw [show tree_New.f = some [(⟨⟨#[]⟩, [], -1, [], []⟩ : S44)] from rfl, Option.bind_some, show tree_Add.f [(⟨⟨#[]⟩, [], -1, [], []⟩ : S44)] 0 (⟨#[112, 99, 105]⟩ : ByteArray) [31] = some (aT1, 1, 0) by kernel_rfl, Option.bind_some]
  dsimp only
  rw [show tree_Add.f aT1 1 (⟨#[100, 105, 115, 107]⟩ : ByteArray) [] = some (aT2, 2, 0) by kernel_rfl, Option.bind_some]
  dsimp only
  rw [path_alive, Option.bind_some]
  kernel_rfl
end Go.Proofs.YtnalcjgefbelnaaDoor.Q
end
section
set_option linter.unusedSimpArgs false
set_option linter.unusedVariables false
namespace Go.Proofs.YtnalcjgefbelnaaDoor.Q
open Go.RowKit Go.Proofs.YtnalcjgefbelnaaDoorW.PrintWords Go.Proofs.YtnalcjgefbelnaaDoorW.PrintLast
def PropG (p : S53) : Prop := p.f0.size ≤ 140737488351232 ∧ (p.f1.length * 1 ≤ 140737488351232 ∧ ∀ b ∈ p.f1, (Lit.int .u8 b).wf = true)
def NodeG (a : S44) : Prop := a.f0.size ≤ 140737488351232 ∧ (a.f1.length * 4 ≤ 140737488351232 ∧ ∀ b ∈ a.f1, (Lit.int .u32 b).wf = true) ∧ (Lit.int .i64 a.f2).wf = true ∧ (a.f3.length * 40 ≤ 140737488351232 ∧ ∀ b ∈ a.f3, PropG b) ∧ (a.f4.length * 4 ≤ 140737488351232 ∧ ∀ b ∈ a.f4, (Lit.int .u32 b).wf = true)
def TreeG (z : List S44) : Prop := z.length * 96 ≤ 140737488351232 ∧ ∀ a ∈ z, NodeG a
def CaseG (z : S30) : Prop := TreeG z.f0 ∧ (Lit.int .i64 z.f1).wf = true ∧ z.f2.size ≤ 140737488351232 ∧ (z.f3.length * 1 ≤ 140737488351232 ∧ ∀ b ∈ z.f3, (Lit.int .u8 b).wf = true)
def UnitG (l : List Int) : Prop := l.length * 4 ≤ 140737488351232 ∧ ∀ b ∈ l, (Lit.int .u32 b).wf = true
theorem good_of {z : List S44} (h : TreeG z) : GoodT z := by
  refine ⟨by have := h.1; omega, fun x hx => ?_⟩
  obtain ⟨-, h1, -, h3, h4⟩ := h.2 x hx
  refine ⟨by have := h1.1; omega, by have := h4.1; omega, by have := h3.1; omega, fun p hp => ?_⟩
  have := (h3.2 p hp).2.1
  omega
end Go.Proofs.YtnalcjgefbelnaaDoor.Q
end
section
namespace Go.Proofs.YtnalcjgefbelnaaDoor.Q
open Go.RowKit Go.Proofs.YtnalcjgefbelnaaDoorW.PrintWords Go.Proofs.YtnalcjgefbelnaaDoorW.PrintLast Go.Proofs.YtnalcjgefbelnaaDoorW.PrintMore
set_option linter.unusedVariables false
set_option linter.unusedSimpArgs false

attribute [local go_sem] max2_int min2_int max_two min_two max_three min_three max_four min_four
/-! ### tree_Next: function 27 -/
def tree_Next.j0 : Nat → List (S44) → Int → Int → Int → Bool → Option (ByteArray × Int)
  | 0, _, _, _, _, _ => none
  | k + 1, x0, x1, x8, x9, x17 => if x17 = true then (if 0 ≤ x1 then (if x1 < (x0.length : Int) then (if ((-1) + 1) = (((rd_T44 x0 x1).f3).length : Int) then (some ((⟨#[]⟩ : ByteArray), 0)) else (if 0 ≤ ((-1) + 1) then (if ((-1) + 1) < (((rd_T44 x0 x1).f3).length : Int) then (some ((rd_T53 ((rd_T44 x0 x1).f3) ((-1) + 1)).f0, 0)) else (none)) else (none))) else (none)) else (none)) else (if x9 = 0 then (if 0 ≤ x1 then (if x1 < (x0.length : Int) then (if (wrap64 (x8 + 1)) = (((rd_T44 x0 x1).f3).length : Int) then (some ((⟨#[]⟩ : ByteArray), 0)) else (if 0 ≤ (wrap64 (x8 + 1)) then (if (wrap64 (x8 + 1)) < (((rd_T44 x0 x1).f3).length : Int) then (some ((rd_T53 ((rd_T44 x0 x1).f3) (wrap64 (x8 + 1))).f0, 0)) else (none)) else (none))) else (none)) else (none)) else (some ((⟨#[]⟩ : ByteArray), x9)))
def tree_Next.f (k : Nat) (l0 : List (S44)) (a1 : Int) (a2 : ByteArray) : Option (ByteArray × Int) := (tree_place.f l0 a1 a2).bind fun bt28001 => (if bt28001.2 = 2 then (tree_Next.j0 k l0 a1 bt28001.1 bt28001.2 (a2.toList == ([] : List UInt8))) else (tree_Next.j0 k l0 a1 bt28001.1 bt28001.2 false))
set_option maxHeartbeats 8000000 in
set_option maxRecDepth 100000 in
theorem tree_Next.calls (k : Nat) (A0 : Option Addr) (c0 : Nat) (l0 : List (S44)) (a1 : Int) (a2 : ByteArray) (r1 : ByteArray) (r2 : Int) (w : World) (hr0 : Kd.C k44 w A0 l0.length l0) (hc0 : l0.length ≤ c0) (h : tree_Next.f k l0 a1 a2 = some (r1, r2)) :
    Calls Tryd.prog 27 #[.slice A0 l0.length c0, .int .i64 a1, .string a2] w fun e w' => e = .returned (.tuple #[.string r1, .int .i64 r2]) ∧ Below w.heap.size w w' := by
  have HR0 := Aside0.mk hr0
  have HC0 := Aside0.mk hc0
  clear hr0 hc0
  have HB := Aside0.mk (Below.refl w.heap.size w)
  have H : ((tree_place.f l0 a1 a2).bind fun bt28001 => (if bt28001.2 = 2 then (tree_Next.j0 k l0 a1 bt28001.1 bt28001.2 (a2.toList == ([] : List UInt8))) else (tree_Next.j0 k l0 a1 bt28001.1 bt28001.2 false))) = some (r1, r2) := h
  clear h
  replace H := Option.bind_eq_some_iff.mp H
  obtain ⟨⟨t28001, t28002⟩, A40, H⟩ := H
  replace H : (if t28002 = 2 then (tree_Next.j0 k l0 a1 t28001 t28002 (a2.toList == ([] : List UInt8))) else (tree_Next.j0 k l0 a1 t28001 t28002 false)) = some (r1, r2) := H
  have A4 := Aside0.mk A40
  clear A40
  have HC5 := Aside0.mk H
  clear H
  go_enter Tryd.func27, Tryd.ntmps27
  go_upto_region 2 with (first | ((with_reducible refine gate_callee (f := 64) rfl ?_); refine goesL_ (some 14) rfl rfl Tryd.func64 (by kernel_rfl) rfl #[.slice A0 l0.length c0, .int .i64 a1, .string a2] rfl (by (try simp only [List.map_toArray, List.map_cons, List.map_nil]); first | done | rfl | (simp only [List.length_drop, List.length_take]; rfl)) ?_; (with_reducible refine (tree_place.calls _ _ l0 a1 a2 t28001 t28002 _ ?side1 ?side2 A4.out).mono ?_); (case side1 => repeat (first | exact HR0.out | (with_reducible refine Kd.C_alloc ?_ _) | (with_reducible refine Kd.C_drewN ?_ _) | (with_reducible refine Kd.C_drew ?_))); (case side2 => exact HC0.out); rintro e w6 ⟨rfl, hb⟩; refine ⟨_, rfl, ?_⟩; have n0_ := Aside0.mk (below_step (by repeat (first | (with_reducible first | exact HB.out | apply below_alloc | apply pw_below_drewN | apply below_drew1) | exact HB.out)) hb); clear HB; have HB := n0_; clear n0_; (try clear hb); (try clear hb2); (try clear hk); (try clear hi)))
  (try simp only [Act.put, List.setIfInBounds_toArray, List.set_cons_zero, List.set_cons_succ])
  go_cut [17] (fun v17 wc => ∃ (kq : Nat) (x17_4 : Bool), v17 = .bool x17_4 ∧ Aside0 (tree_Next.j0 kq l0 a1 t28001 t28002 x17_4 = some (r1, r2)) ∧ Aside0 (kq ≤ k) ∧ Aside0 (Below w.heap.size w wc))
  case first =>
    have H := HC5.out
    clear HC5
    by_cases c7 : t28002 = 2
    · rw [if_pos c7] at H
      have c7b0 : (t28002 == 2) = true := beq_iff_eq.mpr c7
      have c7b1 : (t28002 != 2) = false := bne_eq_false_iff_eq.mpr c7
      clear c7
      (first | rw [c7b0] | (simp only [i64_w, i32_w]; rw [c7b0]) | skip)
      have H' := Aside0.mk H
      clear H
      go_wp2
      go_meet
      case rel => exact ⟨_, ((a2.toList == ([] : List UInt8))), (by first | rfl | (simp; done) | (simp [*]; done)), H', ⟨by first | omega | exact Nat.le_refl _⟩, ⟨by repeat (first | (with_reducible first | exact HB.out | apply below_alloc | apply pw_below_drewN | apply below_drew1) | exact HB.out)⟩⟩
    · rw [if_neg c7] at H
      have c7b0 : (t28002 == 2) = false := beq_eq_false_iff_ne.mpr c7
      have c7b1 : (t28002 != 2) = true := bne_iff_ne.mpr c7
      (first | rw [c7b0] | (simp only [i64_w, i32_w]; rw [c7b0]) | skip)
      have H' := Aside0.mk H
      clear H
      go_wp2
      go_meet
      case rel => exact ⟨_, (false), (by first | rfl | (simp; done) | (simp [*]; done)), H', ⟨by first | omega | exact Nat.le_refl _⟩, ⟨by repeat (first | (with_reducible first | exact HB.out | apply below_alloc | apply pw_below_drewN | apply below_drew1) | exact HB.out)⟩⟩
  case rest =>
    clear HC5
    try clear c2
    try clear p2
    try clear c6
    try clear c7
    try clear c7b0
    try clear c7b1
    obtain ⟨kq, x17_4, rfl, HA, HJ4, HB⟩ := hcut
    cases kq with
    | zero => exact absurd HA.out (by simp [tree_Next.j0])
    | succ kj4 =>
      have H := HA.out
      clear HA
      simp only [tree_Next.j0] at H
      by_cases c8 : x17_4 = true
      · subst c8
        have H1 : (if 0 ≤ a1 then (if a1 < (l0.length : Int) then (if ((-1) + 1) = (((rd_T44 l0 a1).f3).length : Int) then (some ((⟨#[]⟩ : ByteArray), 0)) else (if 0 ≤ ((-1) + 1) then (if ((-1) + 1) < (((rd_T44 l0 a1).f3).length : Int) then (some ((rd_T53 ((rd_T44 l0 a1).f3) ((-1) + 1)).f0, 0)) else (none)) else (none))) else (none)) else (none)) = some (r1, r2) := by rw [if_pos rfl] at H; exact H
        clear H
        have H := H1
        clear H1
        by_cases c9 : 0 ≤ a1
        · rw [if_pos c9] at H
          have c9b0 : decide (0 ≤ a1) = true := decide_eq_true c9
          clear c9
          by_cases c10 : a1 < (l0.length : Int)
          · rw [if_pos c10] at H
            have c10b0 : decide (a1 < (l0.length : Int)) = true := decide_eq_true c10
            clear c10
            by_cases c11 : ((-1) + 1) = (((rd_T44 l0 a1).f3).length : Int)
            · rw [if_pos c11] at H
              have c11b0 : (((-1) + 1) == (((rd_T44 l0 a1).f3).length : Int)) = true := beq_iff_eq.mpr c11
              have c11b1 : (((-1) + 1) != (((rd_T44 l0 a1).f3).length : Int)) = false := bne_eq_false_iff_eq.mpr c11
              clear c11
              simp only [Option.some.injEq, Prod.mk.injEq] at H
              obtain ⟨rfl, rfl⟩ := H
              have p28003 : 0 ≤ (a1 : Int) := of_decide_eq_true (by first | (with_reducible assumption) | assumption)
              have q28003 : a1 < (l0.length : Int) := of_decide_eq_true (by first | (with_reducible assumption) | assumption)
              obtain ⟨ad28003, A28003_1, c28003_1, A28003_3, c28003_3, A28003_4, c28003_4, e28003, hx28003_0, hx28003_1, hx28003_2, hx28003_3, hx28003_4, hl28003_1, hi28003_1, hl28003_3, hi28003_3, hl28003_4, hi28003_4⟩ := at_T44 HR0.out a1 p28003 q28003
              cases e28003
              replace hx28003_0 := (HB.out.cell (World.block_lt_of_cell? w _ hx28003_0)).trans hx28003_0
              replace hx28003_1 := (HB.out.cell (World.block_lt_of_cell? w _ hx28003_1)).trans hx28003_1
              replace hx28003_2 := (HB.out.cell (World.block_lt_of_cell? w _ hx28003_2)).trans hx28003_2
              replace hx28003_3 := (HB.out.cell (World.block_lt_of_cell? w _ hx28003_3)).trans hx28003_3
              replace hx28003_4 := (HB.out.cell (World.block_lt_of_cell? w _ hx28003_4)).trans hx28003_4
              have HR28003_1 := Aside0.mk hi28003_1
              have HC28003_1 := Aside0.mk hl28003_1
              clear hi28003_1 hl28003_1
              have HR28003_3 := Aside0.mk hi28003_3
              have HC28003_3 := Aside0.mk hl28003_3
              clear hi28003_3 hl28003_3
              have HR28003_4 := Aside0.mk hi28003_4
              have HC28003_4 := Aside0.mk hl28003_4
              clear hi28003_4 hl28003_4
              replace p28003 := eq_true p28003
              replace q28003 := eq_true q28003
              go_wp2
              go_ret2
              exact ⟨by first | rfl | (simp [errW_none, errW_some] <;> rfl) | (simp [*, errW_none, errW_some] <;> rfl), by repeat (first | (with_reducible first | exact HB.out | apply below_alloc | apply pw_below_drewN | apply below_drew1) | exact HB.out)⟩
            · rw [if_neg c11] at H
              have c11b0 : (((-1) + 1) == (((rd_T44 l0 a1).f3).length : Int)) = false := beq_eq_false_iff_ne.mpr c11
              have c11b1 : (((-1) + 1) != (((rd_T44 l0 a1).f3).length : Int)) = true := bne_iff_ne.mpr c11
              obtain ⟨ji12, hji12⟩ : ∃ j_ : Int, ((-1) + 1) = j_ := ⟨_, rfl⟩
              replace H : (if 0 ≤ (ji12) then (if (ji12) < (((rd_T44 l0 a1).f3).length : Int) then (some ((rd_T53 ((rd_T44 l0 a1).f3) (ji12)).f0, 0)) else (none)) else (none)) = some (r1, r2) := by first | (rw [hji12] at H; exact H) | (simp only [hji12] at H ⊢; exact H)
              (try rw [hji12] at c11b0)
              (try rw [hji12] at c11b1)
              by_cases c13 : 0 ≤ (ji12)
              · rw [if_pos c13] at H
                have c13b0 : decide (0 ≤ (ji12)) = true := decide_eq_true c13
                clear c13
                by_cases c14 : (ji12) < (((rd_T44 l0 a1).f3).length : Int)
                · rw [if_pos c14] at H
                  have c14b0 : decide ((ji12) < (((rd_T44 l0 a1).f3).length : Int)) = true := decide_eq_true c14
                  clear c14
                  simp only [Option.some.injEq, Prod.mk.injEq] at H
                  obtain ⟨rfl, rfl⟩ := H
                  have p28003 : 0 ≤ (a1 : Int) := of_decide_eq_true (by first | (with_reducible assumption) | assumption)
                  have q28003 : a1 < (l0.length : Int) := of_decide_eq_true (by first | (with_reducible assumption) | assumption)
                  obtain ⟨ad28003, A28003_1, c28003_1, A28003_3, c28003_3, A28003_4, c28003_4, e28003, hx28003_0, hx28003_1, hx28003_2, hx28003_3, hx28003_4, hl28003_1, hi28003_1, hl28003_3, hi28003_3, hl28003_4, hi28003_4⟩ := at_T44 HR0.out a1 p28003 q28003
                  cases e28003
                  replace hx28003_0 := (HB.out.cell (World.block_lt_of_cell? w _ hx28003_0)).trans hx28003_0
                  replace hx28003_1 := (HB.out.cell (World.block_lt_of_cell? w _ hx28003_1)).trans hx28003_1
                  replace hx28003_2 := (HB.out.cell (World.block_lt_of_cell? w _ hx28003_2)).trans hx28003_2
                  replace hx28003_3 := (HB.out.cell (World.block_lt_of_cell? w _ hx28003_3)).trans hx28003_3
                  replace hx28003_4 := (HB.out.cell (World.block_lt_of_cell? w _ hx28003_4)).trans hx28003_4
                  have HR28003_1 := Aside0.mk hi28003_1
                  have HC28003_1 := Aside0.mk hl28003_1
                  clear hi28003_1 hl28003_1
                  have HR28003_3 := Aside0.mk hi28003_3
                  have HC28003_3 := Aside0.mk hl28003_3
                  clear hi28003_3 hl28003_3
                  have HR28003_4 := Aside0.mk hi28003_4
                  have HC28003_4 := Aside0.mk hl28003_4
                  clear hi28003_4 hl28003_4
                  replace p28003 := eq_true p28003
                  replace q28003 := eq_true q28003
                  have p28004 : 0 ≤ (a1 : Int) := of_decide_eq_true (by first | (with_reducible assumption) | assumption)
                  have q28004 : a1 < (l0.length : Int) := of_decide_eq_true (by first | (with_reducible assumption) | assumption)
                  obtain ⟨ad28004, A28004_1, c28004_1, A28004_3, c28004_3, A28004_4, c28004_4, e28004, hx28004_0, hx28004_1, hx28004_2, hx28004_3, hx28004_4, hl28004_1, hi28004_1, hl28004_3, hi28004_3, hl28004_4, hi28004_4⟩ := at_T44 HR0.out a1 p28004 q28004
                  obtain rfl : ad28003 = ad28004 := (by injection e28004)
                  replace hx28004_0 := (HB.out.cell (World.block_lt_of_cell? w _ hx28004_0)).trans hx28004_0
                  replace hx28004_1 := (HB.out.cell (World.block_lt_of_cell? w _ hx28004_1)).trans hx28004_1
                  replace hx28004_2 := (HB.out.cell (World.block_lt_of_cell? w _ hx28004_2)).trans hx28004_2
                  replace hx28004_3 := (HB.out.cell (World.block_lt_of_cell? w _ hx28004_3)).trans hx28004_3
                  replace hx28004_4 := (HB.out.cell (World.block_lt_of_cell? w _ hx28004_4)).trans hx28004_4
                  have HR28004_1 := Aside0.mk hi28004_1
                  have HC28004_1 := Aside0.mk hl28004_1
                  clear hi28004_1 hl28004_1
                  have HR28004_3 := Aside0.mk hi28004_3
                  have HC28004_3 := Aside0.mk hl28004_3
                  clear hi28004_3 hl28004_3
                  have HR28004_4 := Aside0.mk hi28004_4
                  have HC28004_4 := Aside0.mk hl28004_4
                  clear hi28004_4 hl28004_4
                  replace p28004 := eq_true p28004
                  replace q28004 := eq_true q28004
                  have ea_ := Option.some.inj (hx28003_1.symm.trans hx28004_1)
                  injection ea_ with ea_ en_ ec_
                  subst ea_
                  subst ec_
                  clear en_
                  have ea_ := Option.some.inj (hx28003_3.symm.trans hx28004_3)
                  injection ea_ with ea_ en_ ec_
                  subst ea_
                  subst ec_
                  clear en_
                  have ea_ := Option.some.inj (hx28003_4.symm.trans hx28004_4)
                  injection ea_ with ea_ en_ ec_
                  subst ea_
                  subst ec_
                  clear en_
                  have p28005 : 0 ≤ ((ji12) : Int) := of_decide_eq_true (by first | (with_reducible assumption) | assumption)
                  have q28005 : (ji12) < (((rd_T44 l0 a1).f3).length : Int) := of_decide_eq_true (by first | (with_reducible assumption) | assumption)
                  obtain ⟨ad28005, A28005_1, c28005_1, e28005, hx28005_0, hx28005_1, hl28005_1, hi28005_1⟩ := at_T53 HR28004_3.out (ji12) p28005 q28005
                  cases e28005
                  replace hx28005_0 := (HB.out.cell (World.block_lt_of_cell? w _ hx28005_0)).trans hx28005_0
                  replace hx28005_1 := (HB.out.cell (World.block_lt_of_cell? w _ hx28005_1)).trans hx28005_1
                  have HR28005_1 := Aside0.mk hi28005_1
                  have HC28005_1 := Aside0.mk hl28005_1
                  clear hi28005_1 hl28005_1
                  replace p28005 := eq_true p28005
                  replace q28005 := eq_true q28005
                  go_wp2
                  go_ret2
                  exact ⟨by first | rfl | (simp [errW_none, errW_some] <;> rfl) | (simp only [← hji12]; first | rfl | (simp [errW_none, errW_some] <;> rfl)) | (simp [*, errW_none, errW_some] <;> rfl), by repeat (first | (with_reducible first | exact HB.out | apply below_alloc | apply pw_below_drewN | apply below_drew1) | exact HB.out)⟩
                · rw [if_neg c14] at H
                  exact absurd H (by simp)
              · rw [if_neg c13] at H
                exact absurd H (by simp)
          · rw [if_neg c10] at H
            exact absurd H (by simp)
        · rw [if_neg c9] at H
          exact absurd H (by simp)
      · replace c8 := Bool.eq_false_iff.mpr c8
        subst c8
        have H1 : (if t28002 = 0 then (if 0 ≤ a1 then (if a1 < (l0.length : Int) then (if (wrap64 (t28001 + 1)) = (((rd_T44 l0 a1).f3).length : Int) then (some ((⟨#[]⟩ : ByteArray), 0)) else (if 0 ≤ (wrap64 (t28001 + 1)) then (if (wrap64 (t28001 + 1)) < (((rd_T44 l0 a1).f3).length : Int) then (some ((rd_T53 ((rd_T44 l0 a1).f3) (wrap64 (t28001 + 1))).f0, 0)) else (none)) else (none))) else (none)) else (none)) else (some ((⟨#[]⟩ : ByteArray), t28002))) = some (r1, r2) := by rw [if_neg (show ¬ (false = true) by decide)] at H; exact H
        clear H
        have H := H1
        clear H1
        by_cases c15 : t28002 = 0
        · rw [if_pos c15] at H
          have c15b0 : (t28002 == 0) = true := beq_iff_eq.mpr c15
          have c15b1 : (t28002 != 0) = false := bne_eq_false_iff_eq.mpr c15
          clear c15
          by_cases c16 : 0 ≤ a1
          · rw [if_pos c16] at H
            have c16b0 : decide (0 ≤ a1) = true := decide_eq_true c16
            clear c16
            by_cases c17 : a1 < (l0.length : Int)
            · rw [if_pos c17] at H
              have c17b0 : decide (a1 < (l0.length : Int)) = true := decide_eq_true c17
              clear c17
              by_cases c18 : (wrap64 (t28001 + 1)) = (((rd_T44 l0 a1).f3).length : Int)
              · rw [if_pos c18] at H
                have c18b0 : ((wrap64 (t28001 + 1)) == (((rd_T44 l0 a1).f3).length : Int)) = true := beq_iff_eq.mpr c18
                have c18b1 : ((wrap64 (t28001 + 1)) != (((rd_T44 l0 a1).f3).length : Int)) = false := bne_eq_false_iff_eq.mpr c18
                clear c18
                simp only [Option.some.injEq, Prod.mk.injEq] at H
                obtain ⟨rfl, rfl⟩ := H
                have p28006 : 0 ≤ (a1 : Int) := of_decide_eq_true (by first | (with_reducible assumption) | assumption)
                have q28006 : a1 < (l0.length : Int) := of_decide_eq_true (by first | (with_reducible assumption) | assumption)
                obtain ⟨ad28006, A28006_1, c28006_1, A28006_3, c28006_3, A28006_4, c28006_4, e28006, hx28006_0, hx28006_1, hx28006_2, hx28006_3, hx28006_4, hl28006_1, hi28006_1, hl28006_3, hi28006_3, hl28006_4, hi28006_4⟩ := at_T44 HR0.out a1 p28006 q28006
                cases e28006
                replace hx28006_0 := (HB.out.cell (World.block_lt_of_cell? w _ hx28006_0)).trans hx28006_0
                replace hx28006_1 := (HB.out.cell (World.block_lt_of_cell? w _ hx28006_1)).trans hx28006_1
                replace hx28006_2 := (HB.out.cell (World.block_lt_of_cell? w _ hx28006_2)).trans hx28006_2
                replace hx28006_3 := (HB.out.cell (World.block_lt_of_cell? w _ hx28006_3)).trans hx28006_3
                replace hx28006_4 := (HB.out.cell (World.block_lt_of_cell? w _ hx28006_4)).trans hx28006_4
                have HR28006_1 := Aside0.mk hi28006_1
                have HC28006_1 := Aside0.mk hl28006_1
                clear hi28006_1 hl28006_1
                have HR28006_3 := Aside0.mk hi28006_3
                have HC28006_3 := Aside0.mk hl28006_3
                clear hi28006_3 hl28006_3
                have HR28006_4 := Aside0.mk hi28006_4
                have HC28006_4 := Aside0.mk hl28006_4
                clear hi28006_4 hl28006_4
                replace p28006 := eq_true p28006
                replace q28006 := eq_true q28006
                go_wp2
                go_ret2
                exact ⟨by first | rfl | (simp [errW_none, errW_some] <;> rfl) | (simp [*, errW_none, errW_some] <;> rfl), by repeat (first | (with_reducible first | exact HB.out | apply below_alloc | apply pw_below_drewN | apply below_drew1) | exact HB.out)⟩
              · rw [if_neg c18] at H
                have c18b0 : ((wrap64 (t28001 + 1)) == (((rd_T44 l0 a1).f3).length : Int)) = false := beq_eq_false_iff_ne.mpr c18
                have c18b1 : ((wrap64 (t28001 + 1)) != (((rd_T44 l0 a1).f3).length : Int)) = true := bne_iff_ne.mpr c18
                obtain ⟨ji19, hji19⟩ : ∃ j_ : Int, (wrap64 (t28001 + 1)) = j_ := ⟨_, rfl⟩
                replace H : (if 0 ≤ (ji19) then (if (ji19) < (((rd_T44 l0 a1).f3).length : Int) then (some ((rd_T53 ((rd_T44 l0 a1).f3) (ji19)).f0, 0)) else (none)) else (none)) = some (r1, r2) := by first | (rw [hji19] at H; exact H) | (simp only [hji19] at H ⊢; exact H)
                (try rw [hji19] at c18b0)
                (try rw [hji19] at c18b1)
                have hji19w : (IntKind.i64.wrap (t28001 + 1)) = ji19 := (i64_w _).trans hji19
                by_cases c20 : 0 ≤ (ji19)
                · rw [if_pos c20] at H
                  have c20b0 : decide (0 ≤ (ji19)) = true := decide_eq_true c20
                  clear c20
                  by_cases c21 : (ji19) < (((rd_T44 l0 a1).f3).length : Int)
                  · rw [if_pos c21] at H
                    have c21b0 : decide ((ji19) < (((rd_T44 l0 a1).f3).length : Int)) = true := decide_eq_true c21
                    clear c21
                    simp only [Option.some.injEq, Prod.mk.injEq] at H
                    obtain ⟨rfl, rfl⟩ := H
                    have p28006 : 0 ≤ (a1 : Int) := of_decide_eq_true (by first | (with_reducible assumption) | assumption)
                    have q28006 : a1 < (l0.length : Int) := of_decide_eq_true (by first | (with_reducible assumption) | assumption)
                    obtain ⟨ad28006, A28006_1, c28006_1, A28006_3, c28006_3, A28006_4, c28006_4, e28006, hx28006_0, hx28006_1, hx28006_2, hx28006_3, hx28006_4, hl28006_1, hi28006_1, hl28006_3, hi28006_3, hl28006_4, hi28006_4⟩ := at_T44 HR0.out a1 p28006 q28006
                    cases e28006
                    replace hx28006_0 := (HB.out.cell (World.block_lt_of_cell? w _ hx28006_0)).trans hx28006_0
                    replace hx28006_1 := (HB.out.cell (World.block_lt_of_cell? w _ hx28006_1)).trans hx28006_1
                    replace hx28006_2 := (HB.out.cell (World.block_lt_of_cell? w _ hx28006_2)).trans hx28006_2
                    replace hx28006_3 := (HB.out.cell (World.block_lt_of_cell? w _ hx28006_3)).trans hx28006_3
                    replace hx28006_4 := (HB.out.cell (World.block_lt_of_cell? w _ hx28006_4)).trans hx28006_4
                    have HR28006_1 := Aside0.mk hi28006_1
                    have HC28006_1 := Aside0.mk hl28006_1
                    clear hi28006_1 hl28006_1
                    have HR28006_3 := Aside0.mk hi28006_3
                    have HC28006_3 := Aside0.mk hl28006_3
                    clear hi28006_3 hl28006_3
                    have HR28006_4 := Aside0.mk hi28006_4
                    have HC28006_4 := Aside0.mk hl28006_4
                    clear hi28006_4 hl28006_4
                    replace p28006 := eq_true p28006
                    replace q28006 := eq_true q28006
                    have p28007 : 0 ≤ (a1 : Int) := of_decide_eq_true (by first | (with_reducible assumption) | assumption)
                    have q28007 : a1 < (l0.length : Int) := of_decide_eq_true (by first | (with_reducible assumption) | assumption)
                    obtain ⟨ad28007, A28007_1, c28007_1, A28007_3, c28007_3, A28007_4, c28007_4, e28007, hx28007_0, hx28007_1, hx28007_2, hx28007_3, hx28007_4, hl28007_1, hi28007_1, hl28007_3, hi28007_3, hl28007_4, hi28007_4⟩ := at_T44 HR0.out a1 p28007 q28007
                    obtain rfl : ad28006 = ad28007 := (by injection e28007)
                    replace hx28007_0 := (HB.out.cell (World.block_lt_of_cell? w _ hx28007_0)).trans hx28007_0
                    replace hx28007_1 := (HB.out.cell (World.block_lt_of_cell? w _ hx28007_1)).trans hx28007_1
                    replace hx28007_2 := (HB.out.cell (World.block_lt_of_cell? w _ hx28007_2)).trans hx28007_2
                    replace hx28007_3 := (HB.out.cell (World.block_lt_of_cell? w _ hx28007_3)).trans hx28007_3
                    replace hx28007_4 := (HB.out.cell (World.block_lt_of_cell? w _ hx28007_4)).trans hx28007_4
                    have HR28007_1 := Aside0.mk hi28007_1
                    have HC28007_1 := Aside0.mk hl28007_1
                    clear hi28007_1 hl28007_1
                    have HR28007_3 := Aside0.mk hi28007_3
                    have HC28007_3 := Aside0.mk hl28007_3
                    clear hi28007_3 hl28007_3
                    have HR28007_4 := Aside0.mk hi28007_4
                    have HC28007_4 := Aside0.mk hl28007_4
                    clear hi28007_4 hl28007_4
                    replace p28007 := eq_true p28007
                    replace q28007 := eq_true q28007
                    have ea_ := Option.some.inj (hx28006_1.symm.trans hx28007_1)
                    injection ea_ with ea_ en_ ec_
                    subst ea_
                    subst ec_
                    clear en_
                    have ea_ := Option.some.inj (hx28006_3.symm.trans hx28007_3)
                    injection ea_ with ea_ en_ ec_
                    subst ea_
                    subst ec_
                    clear en_
                    have ea_ := Option.some.inj (hx28006_4.symm.trans hx28007_4)
                    injection ea_ with ea_ en_ ec_
                    subst ea_
                    subst ec_
                    clear en_
                    have p28008 : 0 ≤ ((ji19) : Int) := of_decide_eq_true (by first | (with_reducible assumption) | assumption)
                    have q28008 : (ji19) < (((rd_T44 l0 a1).f3).length : Int) := of_decide_eq_true (by first | (with_reducible assumption) | assumption)
                    obtain ⟨ad28008, A28008_1, c28008_1, e28008, hx28008_0, hx28008_1, hl28008_1, hi28008_1⟩ := at_T53 HR28007_3.out (ji19) p28008 q28008
                    cases e28008
                    replace hx28008_0 := (HB.out.cell (World.block_lt_of_cell? w _ hx28008_0)).trans hx28008_0
                    replace hx28008_1 := (HB.out.cell (World.block_lt_of_cell? w _ hx28008_1)).trans hx28008_1
                    have HR28008_1 := Aside0.mk hi28008_1
                    have HC28008_1 := Aside0.mk hl28008_1
                    clear hi28008_1 hl28008_1
                    replace p28008 := eq_true p28008
                    replace q28008 := eq_true q28008
                    go_wp2
                    go_ret2
                    exact ⟨by first | rfl | (simp [errW_none, errW_some] <;> rfl) | (simp only [← hji19]; first | rfl | (simp [errW_none, errW_some] <;> rfl)) | (simp [*, errW_none, errW_some] <;> rfl), by repeat (first | (with_reducible first | exact HB.out | apply below_alloc | apply pw_below_drewN | apply below_drew1) | exact HB.out)⟩
                  · rw [if_neg c21] at H
                    exact absurd H (by simp)
                · rw [if_neg c20] at H
                  exact absurd H (by simp)
            · rw [if_neg c17] at H
              exact absurd H (by simp)
          · rw [if_neg c16] at H
            exact absurd H (by simp)
        · rw [if_neg c15] at H
          have c15b0 : (t28002 == 0) = false := beq_eq_false_iff_ne.mpr c15
          have c15b1 : (t28002 != 0) = true := bne_iff_ne.mpr c15
          simp only [Option.some.injEq, Prod.mk.injEq] at H
          obtain ⟨rfl, rfl⟩ := H
          go_wp2
          go_ret2
          exact ⟨by first | rfl | (simp [errW_none, errW_some] <;> rfl) | (simp [*, errW_none, errW_some] <;> rfl), by repeat (first | (with_reducible first | exact HB.out | apply below_alloc | apply pw_below_drewN | apply below_drew1) | exact HB.out)⟩

end Go.Proofs.YtnalcjgefbelnaaDoor.Q
end
section
namespace Go.Proofs.YtnalcjgefbelnaaDoor.Q
open Go.RowKit Go.Proofs.YtnalcjgefbelnaaDoorW.PrintWords Go.Proofs.YtnalcjgefbelnaaDoorW.PrintLast Go.Proofs.YtnalcjgefbelnaaDoorW.PrintMore
set_option linter.unusedVariables false
set_option linter.unusedSimpArgs false

attribute [local go_sem] max2_int min2_int max_two min_two max_three min_three max_four min_four
/-! ### tree_Get: function 28 -/
def tree_Get.f (l0 : List (S44)) (a1 : Int) (a2 : ByteArray) : Option (List Int × Int) := (tree_place.f l0 a1 a2).bind fun bt29001 => (if bt29001.2 = 0 then (if 0 ≤ a1 then (if a1 < (l0.length : Int) then (if 0 ≤ bt29001.1 then (if bt29001.1 < (((rd_T44 l0 a1).f3).length : Int) then ((slices_Clone_byte_byte.f ((rd_T53 ((rd_T44 l0 a1).f3) bt29001.1).f1)).bind fun t29005 => (some (t29005, 0))) else (none)) else (none)) else (none)) else (none)) else (some (([] : List Int), bt29001.2)))
set_option maxHeartbeats 8000000 in
set_option maxRecDepth 100000 in
theorem tree_Get.calls (A0 : Option Addr) (c0 : Nat) (l0 : List (S44)) (a1 : Int) (a2 : ByteArray) (r1 : List Int) (r2 : Int) (w : World) (hr0 : Kd.C k44 w A0 l0.length l0) (hc0 : l0.length ≤ c0) (h : tree_Get.f l0 a1 a2 = some (r1, r2)) :
    Calls Tryd.prog 28 #[.slice A0 l0.length c0, .int .i64 a1, .string a2] w fun e w' => ∃ v0_ : Value, e = .returned (.tuple #[v0_, .int .i64 r2]) ∧ Kd.R (Kd.int .u8) 5 w' w.heap.size (fun _ => True) v0_ r1 ∧ Below w.heap.size w w' := by
  have HR0 := Aside0.mk hr0
  have HC0 := Aside0.mk hc0
  clear hr0 hc0
  have HB := Aside0.mk (Below.refl w.heap.size w)
  have H : ((tree_place.f l0 a1 a2).bind fun bt29001 => (if bt29001.2 = 0 then (if 0 ≤ a1 then (if a1 < (l0.length : Int) then (if 0 ≤ bt29001.1 then (if bt29001.1 < (((rd_T44 l0 a1).f3).length : Int) then ((slices_Clone_byte_byte.f ((rd_T53 ((rd_T44 l0 a1).f3) bt29001.1).f1)).bind fun t29005 => (some (t29005, 0))) else (none)) else (none)) else (none)) else (none)) else (some (([] : List Int), bt29001.2)))) = some (r1, r2) := h
  clear h
  replace H := Option.bind_eq_some_iff.mp H
  obtain ⟨⟨t29001, t29002⟩, A40, H⟩ := H
  replace H : (if t29002 = 0 then (if 0 ≤ a1 then (if a1 < (l0.length : Int) then (if 0 ≤ t29001 then (if t29001 < (((rd_T44 l0 a1).f3).length : Int) then ((slices_Clone_byte_byte.f ((rd_T53 ((rd_T44 l0 a1).f3) t29001).f1)).bind fun t29005 => (some (t29005, 0))) else (none)) else (none)) else (none)) else (none)) else (some (([] : List Int), t29002))) = some (r1, r2) := H
  have A4 := Aside0.mk A40
  clear A40
  by_cases c5 : t29002 = 0
  · rw [if_pos c5] at H
    have c5b0 : (t29002 == 0) = true := beq_iff_eq.mpr c5
    have c5b1 : (t29002 != 0) = false := bne_eq_false_iff_eq.mpr c5
    clear c5
    by_cases c6 : 0 ≤ a1
    · rw [if_pos c6] at H
      have c6b0 : decide (0 ≤ a1) = true := decide_eq_true c6
      clear c6
      by_cases c7 : a1 < (l0.length : Int)
      · rw [if_pos c7] at H
        have c7b0 : decide (a1 < (l0.length : Int)) = true := decide_eq_true c7
        clear c7
        by_cases c8 : 0 ≤ t29001
        · rw [if_pos c8] at H
          have c8b0 : decide (0 ≤ t29001) = true := decide_eq_true c8
          clear c8
          by_cases c9 : t29001 < (((rd_T44 l0 a1).f3).length : Int)
          · rw [if_pos c9] at H
            have c9b0 : decide (t29001 < (((rd_T44 l0 a1).f3).length : Int)) = true := decide_eq_true c9
            clear c9
            replace H := Option.bind_eq_some_iff.mp H
            obtain ⟨t29005, A100, H⟩ := H
            replace H : (some (t29005, 0)) = some (r1, r2) := H
            have A10 := Aside0.mk A100
            clear A100
            simp only [Option.some.injEq, Prod.mk.injEq] at H
            obtain ⟨rfl, rfl⟩ := H
            go_enter Tryd.func28, Tryd.ntmps28
            go_wp2_with (first | ((with_reducible refine gate_callee (f := 64) rfl ?_); refine goesL_ (some 14) rfl rfl Tryd.func64 (by kernel_rfl) rfl #[.slice A0 l0.length c0, .int .i64 a1, .string a2] rfl (by (try simp only [List.map_toArray, List.map_cons, List.map_nil]); first | done | rfl | (simp only [List.length_drop, List.length_take]; rfl)) ?_; (with_reducible refine (tree_place.calls _ _ l0 a1 a2 t29001 t29002 _ ?side1 ?side2 A4.out).mono ?_); (case side1 => repeat (first | exact HR0.out | (with_reducible refine Kd.C_alloc ?_ _) | (with_reducible refine Kd.C_drewN ?_ _) | (with_reducible refine Kd.C_drew ?_))); (case side2 => exact HC0.out); rintro e w11 ⟨rfl, hb⟩; refine ⟨_, rfl, ?_⟩; have n0_ := Aside0.mk (below_step (by repeat (first | (with_reducible first | exact HB.out | apply below_alloc | apply pw_below_drewN | apply below_drew1) | exact HB.out)) hb); clear HB; have HB := n0_; clear n0_; (try clear hb); (try clear hb2); (try clear hk); (try clear hi); have p29003 : 0 ≤ (a1 : Int) := of_decide_eq_true (by first | (with_reducible assumption) | assumption); have q29003 : a1 < (l0.length : Int) := of_decide_eq_true (by first | (with_reducible assumption) | assumption); obtain ⟨ad29003, A29003_1, c29003_1, A29003_3, c29003_3, A29003_4, c29003_4, e29003, hx29003_0, hx29003_1, hx29003_2, hx29003_3, hx29003_4, hl29003_1, hi29003_1, hl29003_3, hi29003_3, hl29003_4, hi29003_4⟩ := at_T44 HR0.out a1 p29003 q29003; cases e29003; replace hx29003_0 := (HB.out.cell (World.block_lt_of_cell? w _ hx29003_0)).trans hx29003_0; replace hx29003_1 := (HB.out.cell (World.block_lt_of_cell? w _ hx29003_1)).trans hx29003_1; replace hx29003_2 := (HB.out.cell (World.block_lt_of_cell? w _ hx29003_2)).trans hx29003_2; replace hx29003_3 := (HB.out.cell (World.block_lt_of_cell? w _ hx29003_3)).trans hx29003_3; replace hx29003_4 := (HB.out.cell (World.block_lt_of_cell? w _ hx29003_4)).trans hx29003_4; have HR29003_1 := Aside0.mk hi29003_1; have HC29003_1 := Aside0.mk hl29003_1; clear hi29003_1 hl29003_1; have HR29003_3 := Aside0.mk hi29003_3; have HC29003_3 := Aside0.mk hl29003_3; clear hi29003_3 hl29003_3; have HR29003_4 := Aside0.mk hi29003_4; have HC29003_4 := Aside0.mk hl29003_4; clear hi29003_4 hl29003_4; replace p29003 := eq_true p29003; replace q29003 := eq_true q29003; have p29004 : 0 ≤ (t29001 : Int) := of_decide_eq_true (by first | (with_reducible assumption) | assumption); have q29004 : t29001 < (((rd_T44 l0 a1).f3).length : Int) := of_decide_eq_true (by first | (with_reducible assumption) | assumption); obtain ⟨ad29004, A29004_1, c29004_1, e29004, hx29004_0, hx29004_1, hl29004_1, hi29004_1⟩ := at_T53 HR29003_3.out t29001 p29004 q29004; cases e29004; replace hx29004_0 := (HB.out.cell (World.block_lt_of_cell? w _ hx29004_0)).trans hx29004_0; replace hx29004_1 := (HB.out.cell (World.block_lt_of_cell? w _ hx29004_1)).trans hx29004_1; have HR29004_1 := Aside0.mk hi29004_1; have HC29004_1 := Aside0.mk hl29004_1; clear hi29004_1 hl29004_1; replace p29004 := eq_true p29004; replace q29004 := eq_true q29004) | ((with_reducible refine gate_callee (f := 50) rfl ?_); refine goesL_ (some 29) rfl rfl Tryd.func50 (by kernel_rfl) rfl #[.slice A29004_1 ((rd_T53 ((rd_T44 l0 a1).f3) t29001).f1).length c29004_1] rfl (by (try simp only [List.map_toArray, List.map_cons, List.map_nil]); first | done | rfl | (simp only [List.length_drop, List.length_take]; rfl)) ?_; (with_reducible refine (slices_Clone_byte_byte.calls _ _ ((rd_T53 ((rd_T44 l0 a1).f3) t29001).f1) t29005 _ ?side1 ?side2 A10.out).mono ?_); (case side1 => repeat (first | exact (Kd.C_below HR29004_1.out HB.out) | (with_reducible refine Kd.C_alloc ?_ _) | (with_reducible refine Kd.C_drewN ?_ _) | (with_reducible refine Kd.C_drew ?_))); (case side2 => exact HC29004_1.out); rintro e w12 ⟨v29006, rfl, ho0, hb⟩; refine ⟨_, rfl, ?_⟩; have n0_ := Aside0.mk (Kd.R_lower ho0 (below_size (by repeat (first | (with_reducible first | exact HB.out | apply below_alloc | apply pw_below_drewN | apply below_drew1) | exact HB.out)))); have n1_ := Aside0.mk (below_step (by repeat (first | (with_reducible first | exact HB.out | apply below_alloc | apply pw_below_drewN | apply below_drew1) | exact HB.out)) hb); clear HB; have HO29007 := n0_; have HB := n1_; clear n0_ n1_; (try clear hb); (try clear hb2); (try clear hk); (try clear hi); (try clear ho0)))
            go_ret2
            exact ⟨_, by first | rfl | (simp [errW_none, errW_some] <;> rfl) | (simp [*, errW_none, errW_some] <;> rfl), by (with_reducible repeat (first | apply Kd.R_alloc | apply Kd.R_drewN | apply Kd.R_drew)); exact HO29007.out, by repeat (first | (with_reducible first | exact HB.out | apply below_alloc | apply pw_below_drewN | apply below_drew1) | exact HB.out)⟩
          · rw [if_neg c9] at H
            exact absurd H (by simp)
        · rw [if_neg c8] at H
          exact absurd H (by simp)
      · rw [if_neg c7] at H
        exact absurd H (by simp)
    · rw [if_neg c6] at H
      exact absurd H (by simp)
  · rw [if_neg c5] at H
    have c5b0 : (t29002 == 0) = false := beq_eq_false_iff_ne.mpr c5
    have c5b1 : (t29002 != 0) = true := bne_iff_ne.mpr c5
    simp only [Option.some.injEq, Prod.mk.injEq] at H
    obtain ⟨rfl, rfl⟩ := H
    go_enter Tryd.func28, Tryd.ntmps28
    go_wp2_with (first | ((with_reducible refine gate_callee (f := 64) rfl ?_); refine goesL_ (some 14) rfl rfl Tryd.func64 (by kernel_rfl) rfl #[.slice A0 l0.length c0, .int .i64 a1, .string a2] rfl (by (try simp only [List.map_toArray, List.map_cons, List.map_nil]); first | done | rfl | (simp only [List.length_drop, List.length_take]; rfl)) ?_; (with_reducible refine (tree_place.calls _ _ l0 a1 a2 t29001 t29002 _ ?side1 ?side2 A4.out).mono ?_); (case side1 => repeat (first | exact HR0.out | (with_reducible refine Kd.C_alloc ?_ _) | (with_reducible refine Kd.C_drewN ?_ _) | (with_reducible refine Kd.C_drew ?_))); (case side2 => exact HC0.out); rintro e w13 ⟨rfl, hb⟩; refine ⟨_, rfl, ?_⟩; have n0_ := Aside0.mk (below_step (by repeat (first | (with_reducible first | exact HB.out | apply below_alloc | apply pw_below_drewN | apply below_drew1) | exact HB.out)) hb); clear HB; have HB := n0_; clear n0_; (try clear hb); (try clear hb2); (try clear hk); (try clear hi)))
    go_ret2
    exact ⟨_, by first | rfl | (simp [errW_none, errW_some] <;> rfl) | (simp [*, errW_none, errW_some] <;> rfl), by first | exact Kd.R_nil _ _ _ _ _ | exact Kd.N_nil _ _ _ _ _ | exact Kd.V_nil _ _ _ _ _ | exact Kd.Q_nil _ _ _ _ _ | exact Kd.S_nil _ _ _ _ _, by repeat (first | (with_reducible first | exact HB.out | apply below_alloc | apply pw_below_drewN | apply below_drew1) | exact HB.out)⟩

end Go.Proofs.YtnalcjgefbelnaaDoor.Q
end
section
namespace Go.Proofs.YtnalcjgefbelnaaDoor.Q
open Go.RowKit Go.Proofs.YtnalcjgefbelnaaDoorW.PrintWords Go.Proofs.YtnalcjgefbelnaaDoorW.PrintLast Go.Proofs.YtnalcjgefbelnaaDoorW.PrintMore
set_option linter.unusedVariables false
set_option linter.unusedSimpArgs false

attribute [local go_sem] max2_int min2_int max_two min_two max_three min_three max_four min_four
/-! ### tree_Children: function 33 -/
def tree_Children.l0 : Nat → Int → List Int → List (S44) → Int → Int → Option (List Int)
  | 0, _, _, _, _, _ => none
  | k + 1, x1, x4, x7, x8, x9 => if x9 < x8 then (if 0 ≤ x9 then (if x9 < (x7.length : Int) then (if x1 ≥ 0 then (if ((rd_T44 x7 x9).f2) = x1 then (if x4.length < 17592186044416 then (tree_Children.l0 k x1 (x4 ++ [x9]) x7 x8 (wrap64 (x9 + 1))) else (none)) else (tree_Children.l0 k x1 x4 x7 x8 (wrap64 (x9 + 1)))) else (tree_Children.l0 k x1 x4 x7 x8 (wrap64 (x9 + 1)))) else (none)) else (none)) else (some x4)
def tree_Children.f (k : Nat) (l0 : List (S44)) (a1 : Int) : Option (List Int) := tree_Children.l0 k a1 ([] : List Int) l0 (l0.length : Int) 0
set_option maxHeartbeats 8000000 in
set_option maxRecDepth 100000 in
theorem tree_Children.calls (k : Nat) (A0 : Option Addr) (c0 : Nat) (l0 : List (S44)) (a1 : Int) (r : List Int) (w : World) (hr0 : Kd.C k44 w A0 l0.length l0) (hc0 : l0.length ≤ c0) (h : tree_Children.f k l0 a1 = some r) :
    Calls Tryd.prog 33 #[.slice A0 l0.length c0, .int .i64 a1] w fun e w' => ∃ v0_ : Value, e = .returned (v0_) ∧ Kd.R (Kd.int .i64) 3 w' w.heap.size (fun _ => True) v0_ r ∧ Below w.heap.size w w' := by
  have hu44 := Tryd.underlying44
  have HR0 := Aside0.mk hr0
  have HC0 := Aside0.mk hc0
  clear hr0 hc0
  have HB := Aside0.mk (Below.refl w.heap.size w)
  have H : (tree_Children.l0 k a1 ([] : List Int) l0 (l0.length : Int) 0) = some r := h
  clear h
  have H' := Aside0.mk H
  clear H
  go_enter Tryd.func33, Tryd.ntmps33
  go_wp2
  go_loopg [4, 9] k (fun kq v4 v9 w' => ∃ (x4_1 : List Int) (x9_1 : Int), v9 = .int .i64 x9_1 ∧ Aside0 (tree_Children.l0 kq a1 x4_1 l0 (l0.length : Int) x9_1 = some r) ∧ Aside0 (kq ≤ k) ∧ Aside0 (Kd.R (Kd.int .i64) 3 w' w.heap.size (fun _ => True) v4 x4_1) ∧ Aside0 (Below w.heap.size w w'))
  case atStart => exact ⟨(([] : List Int)), (0), (by first | rfl | (simp; done) | (simp [*]; done)), H', ⟨Nat.le_refl _⟩, ⟨by first | exact Kd.R_nil _ _ _ _ _ | exact Kd.N_nil _ _ _ _ _ | exact Kd.V_nil _ _ _ _ _ | exact Kd.Q_nil _ _ _ _ _ | exact Kd.S_nil _ _ _ _ _⟩, ⟨by repeat (first | (with_reducible first | exact HB.out | apply below_alloc | apply pw_below_drewN | apply below_drew1) | exact HB.out)⟩⟩
  case round =>
    clear H'
    try clear p2
    obtain ⟨x4_1, x9_1, rfl, HA, HK1, HO_4, HB⟩ := hrel
    cases gk with
    | zero => exact absurd HA.out (by simp [tree_Children.l0])
    | succ k1 =>
      have H := HA.out
      clear HA
      simp only [tree_Children.l0] at H
      by_cases c3 : x9_1 < (l0.length : Int)
      · rw [if_pos c3] at H
        have c3b0 : decide (x9_1 < (l0.length : Int)) = true := decide_eq_true c3
        clear c3
        by_cases c4 : 0 ≤ x9_1
        · rw [if_pos c4] at H
          have c4b0 : decide (0 ≤ x9_1) = true := decide_eq_true c4
          clear c4
          by_cases c5 : x9_1 < (l0.length : Int)
          · rw [if_pos c5] at H
            have c5b0 : decide (x9_1 < (l0.length : Int)) = true := decide_eq_true c5
            clear c5
            by_cases c6 : a1 ≥ 0
            · rw [if_pos c6] at H
              have c6b0 : decide (0 ≤ a1) = true := decide_eq_true c6
              clear c6
              by_cases c7 : ((rd_T44 l0 x9_1).f2) = a1
              · rw [if_pos c7] at H
                have c7b0 : (((rd_T44 l0 x9_1).f2) == a1) = true := beq_iff_eq.mpr c7
                have c7b1 : (((rd_T44 l0 x9_1).f2) != a1) = false := bne_eq_false_iff_eq.mpr c7
                clear c7
                by_cases c8 : x4_1.length < 17592186044416
                · rw [if_pos c8] at H
                  have LMc8 := Aside0.mk c8
                  clear c8
                  obtain ⟨y34003, hy34003⟩ : ∃ y_ : List Int, y_ = (x4_1 ++ [x9_1]) := ⟨_, rfl⟩
                  replace H : (tree_Children.l0 k1 a1 y34003 l0 (l0.length : Int) (wrap64 (x9_1 + 1))) = some r := by first | (rw [hy34003]; with_reducible exact H) | (have H2_ := (Option.bind_some _ _).symm.trans H; rw [hy34003]; with_reducible exact H2_) | (have H2_ := (Option.bind_some _ _).symm.trans H; with_reducible exact H2_) | with_reducible exact H | (rw [hy34003]; exact H) | exact H
                  have Ny34003 := Aside0.mk hy34003
                  clear hy34003
                  have H' := Aside0.mk H
                  clear H
                  have p34001 : 0 ≤ (x9_1 : Int) := of_decide_eq_true (by first | (with_reducible assumption) | assumption)
                  have q34001 : x9_1 < (l0.length : Int) := of_decide_eq_true (by first | (with_reducible assumption) | assumption)
                  obtain ⟨ad34001, A34001_1, c34001_1, A34001_3, c34001_3, A34001_4, c34001_4, e34001, hx34001_0, hx34001_1, hx34001_2, hx34001_3, hx34001_4, hl34001_1, hi34001_1, hl34001_3, hi34001_3, hl34001_4, hi34001_4⟩ := at_T44 HR0.out x9_1 p34001 q34001
                  cases e34001
                  replace hx34001_0 := (HB.out.cell (World.block_lt_of_cell? w _ hx34001_0)).trans hx34001_0
                  replace hx34001_1 := (HB.out.cell (World.block_lt_of_cell? w _ hx34001_1)).trans hx34001_1
                  replace hx34001_2 := (HB.out.cell (World.block_lt_of_cell? w _ hx34001_2)).trans hx34001_2
                  replace hx34001_3 := (HB.out.cell (World.block_lt_of_cell? w _ hx34001_3)).trans hx34001_3
                  replace hx34001_4 := (HB.out.cell (World.block_lt_of_cell? w _ hx34001_4)).trans hx34001_4
                  have HR34001_1 := Aside0.mk hi34001_1
                  have HC34001_1 := Aside0.mk hl34001_1
                  clear hi34001_1 hl34001_1
                  have HR34001_3 := Aside0.mk hi34001_3
                  have HC34001_3 := Aside0.mk hl34001_3
                  clear hi34001_3 hl34001_3
                  have HR34001_4 := Aside0.mk hi34001_4
                  have HC34001_4 := Aside0.mk hl34001_4
                  clear hi34001_4 hl34001_4
                  replace p34001 := eq_true p34001
                  replace q34001 := eq_true q34001
                  go_wp2_with (first | ((with_reducible refine gate_dst (N := 6) rfl ?_); refine box_event ?hg (N := 6) ?hd (cs := #[.string (⟨#[]⟩ : ByteArray), .slice none 0 0, .int .i64 0, .slice none 0 0, .slice none 0 0]) (t := 44) ?hr ?_; (case hd => rfl); (case hg => rfl); (case hr => first | (go_simp; done) | (go_simp; rfl)); intro gb34002 hg w9 hbox hb; have n0_ := Aside0.mk (Kd.R_below (by (with_reducible repeat (first | apply Kd.R_alloc | apply Kd.R_drewN | apply Kd.R_drew)); exact HO_4.out) hb); have n1_ := Aside0.mk (below_step (by repeat (first | (with_reducible first | exact HB.out | apply below_alloc | apply pw_below_drewN | apply below_drew1) | exact HB.out)) hb); have n2_ := Aside0.mk (hbox); have n3_ := Aside0.mk ((by rw [hg]; exact (below_size (by repeat (first | (with_reducible first | exact HB.out | apply below_alloc | apply pw_below_drewN | apply below_drew1) | exact HB.out))) : w.heap.size ≤ gb34002)); have n4_ := Aside0.mk ((by rw [hg]; exact (below_size (by repeat (first | (with_reducible first | exact HB.out | apply below_alloc | apply pw_below_drewN | apply below_drew1) | exact HB.out))) : w.heap.size ≤ gb34002)); clear HO_4; clear HB; have HO_4 := n0_; have HB := n1_; have BK34002 := n2_; have GW34002 := n3_; have GE34002 := n4_; clear n0_ n1_ n2_ n3_ n4_; clear hb hbox hg; have hcz10_0 : w9.cell? ⟨gb34002, 0, none⟩ = some (.string (⟨#[]⟩ : ByteArray)) := (blk_cell BK34002.out 0).trans rfl; have hcz10_1 : w9.cell? ⟨gb34002, 1, none⟩ = some (.slice none 0 0) := (blk_cell BK34002.out 1).trans rfl; have hcz10_2 : w9.cell? ⟨gb34002, 2, none⟩ = some (.int .i64 0) := (blk_cell BK34002.out 2).trans rfl; have hcz10_3 : w9.cell? ⟨gb34002, 3, none⟩ = some (.slice none 0 0) := (blk_cell BK34002.out 3).trans rfl; have hcz10_4 : w9.cell? ⟨gb34002, 4, none⟩ = some (.slice none 0 0) := (blk_cell BK34002.out 4).trans rfl; have hfz10_0 := blk_frozen BK34002.out 0; have hfz10_1 := blk_frozen BK34002.out 1; have hfz10_2 := blk_frozen BK34002.out 2; have hfz10_3 := blk_frozen BK34002.out 3; have hfz10_4 := blk_frozen BK34002.out 4) | ((with_reducible refine gate_builtin (b := .append) (xs := #[.tmp 22, .tmp 24]) rfl ?_); at_builtin; refine Kd.R_append (Kd.int .i64) (w0 := w) w.heap.size rfl (.tmp 22) (.tmp 24) 58 3 (.int .i64 0) 8 rfl Tryd.underlying58 info3 rfl (by decide) (by omega) u4 x4_1 x9_1 [.int .i64 x9_1] (fun _ => True) (fun _ => False) rfl (by first | (go_simp; done) | (go_simp; rfl)) ?aP (fun _ hk => hk.elim) ?aF ?aO ?aB ?aS ?aL ?_; (case aP => exact rfl); (case aB => exact (by repeat (first | (with_reducible first | exact HB.out | apply below_alloc | apply pw_below_drewN | apply below_drew1 | refine below_set ?_ GE34002.out) | exact HB.out))); (case aF => exact (fun _ _ => trivial)); (case aO => exact (by (with_reducible repeat (first | apply Kd.R_alloc | apply Kd.R_drewN | apply Kd.R_drew)); exact Kd.R_mono (Kd.R_far (p := ⟨gb34002, 4, none⟩) (Kd.R_far (p := ⟨gb34002, 3, none⟩) (Kd.R_far (p := ⟨gb34002, 2, none⟩) (Kd.R_far (p := ⟨gb34002, 1, none⟩) (Kd.R_far (p := ⟨gb34002, 0, none⟩) (Kd.R_types HO_4.out BK34002.out (by decide)) (fun _ hk => hk.2) (.string ((rd_T44 l0 x9_1).f0))) (fun _ hk => hk.2) (.slice A34001_1 ((rd_T44 l0 x9_1).f1).length c34001_1)) (fun _ hk => hk.2) (.int .i64 ((rd_T44 l0 x9_1).f2))) (fun _ hk => hk.2) (.slice A34001_3 ((rd_T44 l0 x9_1).f3).length c34001_3)) (fun _ hk => hk.2) (.slice A34001_4 ((rd_T44 l0 x9_1).f4).length c34001_4)) (fun _ hk => trivial))); (case aS => exact (below_size (by repeat (first | (with_reducible first | exact HB.out | apply below_alloc | apply pw_below_drewN | apply below_drew1 | refine below_set ?_ GE34002.out) | exact HB.out)))); (case aL => have := LMc8.out; omega); intro v34004 w11 ho hb hg hat; rw [← Ny34003.out] at ho; have n0_ := Aside0.mk (blk_grown (g := gb34002) (o := .cells #[.string ((rd_T44 l0 x9_1).f0), .slice A34001_1 ((rd_T44 l0 x9_1).f1).length c34001_1, .int .i64 ((rd_T44 l0 x9_1).f2), .slice A34001_3 ((rd_T44 l0 x9_1).f3).length c34001_3, .slice A34001_4 ((rd_T44 l0 x9_1).f4).length c34001_4] 44 (0, 0)) (by (with_reducible repeat (first | refine blk_drewN ?_ _ | refine blk_drew ?_ | refine blk_alloc ?_ _)); refine blk_put (cs := #[.string ((rd_T44 l0 x9_1).f0), .slice A34001_1 ((rd_T44 l0 x9_1).f1).length c34001_1, .int .i64 ((rd_T44 l0 x9_1).f2), .slice A34001_3 ((rd_T44 l0 x9_1).f3).length c34001_3, .slice none 0 0]) ?_ 4 _ rfl; (with_reducible repeat (first | refine blk_drewN ?_ _ | refine blk_drew ?_ | refine blk_alloc ?_ _)); refine blk_put (cs := #[.string ((rd_T44 l0 x9_1).f0), .slice A34001_1 ((rd_T44 l0 x9_1).f1).length c34001_1, .int .i64 ((rd_T44 l0 x9_1).f2), .slice none 0 0, .slice none 0 0]) ?_ 3 _ rfl; (with_reducible repeat (first | refine blk_drewN ?_ _ | refine blk_drew ?_ | refine blk_alloc ?_ _)); refine blk_put (cs := #[.string ((rd_T44 l0 x9_1).f0), .slice A34001_1 ((rd_T44 l0 x9_1).f1).length c34001_1, .int .i64 0, .slice none 0 0, .slice none 0 0]) ?_ 2 _ rfl; (with_reducible repeat (first | refine blk_drewN ?_ _ | refine blk_drew ?_ | refine blk_alloc ?_ _)); refine blk_put (cs := #[.string ((rd_T44 l0 x9_1).f0), .slice none 0 0, .int .i64 0, .slice none 0 0, .slice none 0 0]) ?_ 1 _ rfl; (with_reducible repeat (first | refine blk_drewN ?_ _ | refine blk_drew ?_ | refine blk_alloc ?_ _)); refine blk_put (cs := #[.string (⟨#[]⟩ : ByteArray), .slice none 0 0, .int .i64 0, .slice none 0 0, .slice none 0 0]) ?_ 0 _ rfl; (with_reducible repeat (first | refine blk_drewN ?_ _ | refine blk_drew ?_ | refine blk_alloc ?_ _)); exact BK34002.out) hg (Kd.R_ne HO_4.out BK34002.out (by decide))); have n1_ := Aside0.mk (hb); have n2_ := Aside0.mk (ho); clear BK34002; clear HB; clear HO_4; have BK34002 := n0_; have HB := n1_; have HO34005 := n2_; clear n0_ n1_ n2_; clear ho hb hg hat))
                  go_roundg k1
                  case measure => have := HK1.out; omega
                  case rel => exact ⟨(y34003), (wrap64 (x9_1 + 1)), (by first | rfl | (simp; done) | (simp [*]; done)), H', ⟨by have := HK1.out; omega⟩, ⟨by (with_reducible repeat (first | apply Kd.R_alloc | apply Kd.R_drewN | apply Kd.R_drew)); exact HO34005.out⟩, ⟨by repeat (first | (with_reducible first | exact HB.out | apply below_alloc | apply pw_below_drewN | apply below_drew1 | refine below_set ?_ GE34002.out) | exact HB.out)⟩⟩
                · rw [if_neg c8] at H
                  exact absurd H (by simp)
              · rw [if_neg c7] at H
                have c7b0 : (((rd_T44 l0 x9_1).f2) == a1) = false := beq_eq_false_iff_ne.mpr c7
                have c7b1 : (((rd_T44 l0 x9_1).f2) != a1) = true := bne_iff_ne.mpr c7
                have H' := Aside0.mk H
                clear H
                have p34001 : 0 ≤ (x9_1 : Int) := of_decide_eq_true (by first | (with_reducible assumption) | assumption)
                have q34001 : x9_1 < (l0.length : Int) := of_decide_eq_true (by first | (with_reducible assumption) | assumption)
                obtain ⟨ad34001, A34001_1, c34001_1, A34001_3, c34001_3, A34001_4, c34001_4, e34001, hx34001_0, hx34001_1, hx34001_2, hx34001_3, hx34001_4, hl34001_1, hi34001_1, hl34001_3, hi34001_3, hl34001_4, hi34001_4⟩ := at_T44 HR0.out x9_1 p34001 q34001
                cases e34001
                replace hx34001_0 := (HB.out.cell (World.block_lt_of_cell? w _ hx34001_0)).trans hx34001_0
                replace hx34001_1 := (HB.out.cell (World.block_lt_of_cell? w _ hx34001_1)).trans hx34001_1
                replace hx34001_2 := (HB.out.cell (World.block_lt_of_cell? w _ hx34001_2)).trans hx34001_2
                replace hx34001_3 := (HB.out.cell (World.block_lt_of_cell? w _ hx34001_3)).trans hx34001_3
                replace hx34001_4 := (HB.out.cell (World.block_lt_of_cell? w _ hx34001_4)).trans hx34001_4
                have HR34001_1 := Aside0.mk hi34001_1
                have HC34001_1 := Aside0.mk hl34001_1
                clear hi34001_1 hl34001_1
                have HR34001_3 := Aside0.mk hi34001_3
                have HC34001_3 := Aside0.mk hl34001_3
                clear hi34001_3 hl34001_3
                have HR34001_4 := Aside0.mk hi34001_4
                have HC34001_4 := Aside0.mk hl34001_4
                clear hi34001_4 hl34001_4
                replace p34001 := eq_true p34001
                replace q34001 := eq_true q34001
                go_wp2_with (first | ((with_reducible refine gate_dst (N := 6) rfl ?_); refine box_event ?hg (N := 6) ?hd (cs := #[.string (⟨#[]⟩ : ByteArray), .slice none 0 0, .int .i64 0, .slice none 0 0, .slice none 0 0]) (t := 44) ?hr ?_; (case hd => rfl); (case hg => rfl); (case hr => first | (go_simp; done) | (go_simp; rfl)); intro gb34002 hg w12 hbox hb; have n0_ := Aside0.mk (Kd.R_below (by (with_reducible repeat (first | apply Kd.R_alloc | apply Kd.R_drewN | apply Kd.R_drew)); exact HO_4.out) hb); have n1_ := Aside0.mk (below_step (by repeat (first | (with_reducible first | exact HB.out | apply below_alloc | apply pw_below_drewN | apply below_drew1) | exact HB.out)) hb); have n2_ := Aside0.mk (hbox); have n3_ := Aside0.mk ((by rw [hg]; exact (below_size (by repeat (first | (with_reducible first | exact HB.out | apply below_alloc | apply pw_below_drewN | apply below_drew1) | exact HB.out))) : w.heap.size ≤ gb34002)); have n4_ := Aside0.mk ((by rw [hg]; exact (below_size (by repeat (first | (with_reducible first | exact HB.out | apply below_alloc | apply pw_below_drewN | apply below_drew1) | exact HB.out))) : w.heap.size ≤ gb34002)); clear HO_4; clear HB; have HO_4 := n0_; have HB := n1_; have BK34002 := n2_; have GW34002 := n3_; have GE34002 := n4_; clear n0_ n1_ n2_ n3_ n4_; clear hb hbox hg; have hcz13_0 : w12.cell? ⟨gb34002, 0, none⟩ = some (.string (⟨#[]⟩ : ByteArray)) := (blk_cell BK34002.out 0).trans rfl; have hcz13_1 : w12.cell? ⟨gb34002, 1, none⟩ = some (.slice none 0 0) := (blk_cell BK34002.out 1).trans rfl; have hcz13_2 : w12.cell? ⟨gb34002, 2, none⟩ = some (.int .i64 0) := (blk_cell BK34002.out 2).trans rfl; have hcz13_3 : w12.cell? ⟨gb34002, 3, none⟩ = some (.slice none 0 0) := (blk_cell BK34002.out 3).trans rfl; have hcz13_4 : w12.cell? ⟨gb34002, 4, none⟩ = some (.slice none 0 0) := (blk_cell BK34002.out 4).trans rfl; have hfz13_0 := blk_frozen BK34002.out 0; have hfz13_1 := blk_frozen BK34002.out 1; have hfz13_2 := blk_frozen BK34002.out 2; have hfz13_3 := blk_frozen BK34002.out 3; have hfz13_4 := blk_frozen BK34002.out 4))
                go_roundg k1
                case measure => have := HK1.out; omega
                case rel => exact ⟨(x4_1), (wrap64 (x9_1 + 1)), (by first | rfl | (simp; done) | (simp [*]; done)), H', ⟨by have := HK1.out; omega⟩, ⟨by (with_reducible repeat (first | apply Kd.R_alloc | apply Kd.R_drewN | apply Kd.R_drew)); exact Kd.R_mono (Kd.R_far (p := ⟨gb34002, 4, none⟩) (Kd.R_far (p := ⟨gb34002, 3, none⟩) (Kd.R_far (p := ⟨gb34002, 2, none⟩) (Kd.R_far (p := ⟨gb34002, 1, none⟩) (Kd.R_far (p := ⟨gb34002, 0, none⟩) (Kd.R_types HO_4.out BK34002.out (by decide)) (fun _ hk => hk.2) (.string ((rd_T44 l0 x9_1).f0))) (fun _ hk => hk.2) (.slice A34001_1 ((rd_T44 l0 x9_1).f1).length c34001_1)) (fun _ hk => hk.2) (.int .i64 ((rd_T44 l0 x9_1).f2))) (fun _ hk => hk.2) (.slice A34001_3 ((rd_T44 l0 x9_1).f3).length c34001_3)) (fun _ hk => hk.2) (.slice A34001_4 ((rd_T44 l0 x9_1).f4).length c34001_4)) (fun _ hk => trivial)⟩, ⟨by repeat (first | (with_reducible first | exact HB.out | apply below_alloc | apply pw_below_drewN | apply below_drew1 | refine below_set ?_ GE34002.out) | exact HB.out)⟩⟩
            · rw [if_neg c6] at H
              have c6b0 : decide (0 ≤ a1) = false := decide_eq_false c6
              clear c6
              have H' := Aside0.mk H
              clear H
              have p34001 : 0 ≤ (x9_1 : Int) := of_decide_eq_true (by first | (with_reducible assumption) | assumption)
              have q34001 : x9_1 < (l0.length : Int) := of_decide_eq_true (by first | (with_reducible assumption) | assumption)
              obtain ⟨ad34001, A34001_1, c34001_1, A34001_3, c34001_3, A34001_4, c34001_4, e34001, hx34001_0, hx34001_1, hx34001_2, hx34001_3, hx34001_4, hl34001_1, hi34001_1, hl34001_3, hi34001_3, hl34001_4, hi34001_4⟩ := at_T44 HR0.out x9_1 p34001 q34001
              cases e34001
              replace hx34001_0 := (HB.out.cell (World.block_lt_of_cell? w _ hx34001_0)).trans hx34001_0
              replace hx34001_1 := (HB.out.cell (World.block_lt_of_cell? w _ hx34001_1)).trans hx34001_1
              replace hx34001_2 := (HB.out.cell (World.block_lt_of_cell? w _ hx34001_2)).trans hx34001_2
              replace hx34001_3 := (HB.out.cell (World.block_lt_of_cell? w _ hx34001_3)).trans hx34001_3
              replace hx34001_4 := (HB.out.cell (World.block_lt_of_cell? w _ hx34001_4)).trans hx34001_4
              have HR34001_1 := Aside0.mk hi34001_1
              have HC34001_1 := Aside0.mk hl34001_1
              clear hi34001_1 hl34001_1
              have HR34001_3 := Aside0.mk hi34001_3
              have HC34001_3 := Aside0.mk hl34001_3
              clear hi34001_3 hl34001_3
              have HR34001_4 := Aside0.mk hi34001_4
              have HC34001_4 := Aside0.mk hl34001_4
              clear hi34001_4 hl34001_4
              replace p34001 := eq_true p34001
              replace q34001 := eq_true q34001
              go_wp2_with (first | ((with_reducible refine gate_dst (N := 6) rfl ?_); refine box_event ?hg (N := 6) ?hd (cs := #[.string (⟨#[]⟩ : ByteArray), .slice none 0 0, .int .i64 0, .slice none 0 0, .slice none 0 0]) (t := 44) ?hr ?_; (case hd => rfl); (case hg => rfl); (case hr => first | (go_simp; done) | (go_simp; rfl)); intro gb34002 hg w14 hbox hb; have n0_ := Aside0.mk (Kd.R_below (by (with_reducible repeat (first | apply Kd.R_alloc | apply Kd.R_drewN | apply Kd.R_drew)); exact HO_4.out) hb); have n1_ := Aside0.mk (below_step (by repeat (first | (with_reducible first | exact HB.out | apply below_alloc | apply pw_below_drewN | apply below_drew1) | exact HB.out)) hb); have n2_ := Aside0.mk (hbox); have n3_ := Aside0.mk ((by rw [hg]; exact (below_size (by repeat (first | (with_reducible first | exact HB.out | apply below_alloc | apply pw_below_drewN | apply below_drew1) | exact HB.out))) : w.heap.size ≤ gb34002)); have n4_ := Aside0.mk ((by rw [hg]; exact (below_size (by repeat (first | (with_reducible first | exact HB.out | apply below_alloc | apply pw_below_drewN | apply below_drew1) | exact HB.out))) : w.heap.size ≤ gb34002)); clear HO_4; clear HB; have HO_4 := n0_; have HB := n1_; have BK34002 := n2_; have GW34002 := n3_; have GE34002 := n4_; clear n0_ n1_ n2_ n3_ n4_; clear hb hbox hg; have hcz15_0 : w14.cell? ⟨gb34002, 0, none⟩ = some (.string (⟨#[]⟩ : ByteArray)) := (blk_cell BK34002.out 0).trans rfl; have hcz15_1 : w14.cell? ⟨gb34002, 1, none⟩ = some (.slice none 0 0) := (blk_cell BK34002.out 1).trans rfl; have hcz15_2 : w14.cell? ⟨gb34002, 2, none⟩ = some (.int .i64 0) := (blk_cell BK34002.out 2).trans rfl; have hcz15_3 : w14.cell? ⟨gb34002, 3, none⟩ = some (.slice none 0 0) := (blk_cell BK34002.out 3).trans rfl; have hcz15_4 : w14.cell? ⟨gb34002, 4, none⟩ = some (.slice none 0 0) := (blk_cell BK34002.out 4).trans rfl; have hfz15_0 := blk_frozen BK34002.out 0; have hfz15_1 := blk_frozen BK34002.out 1; have hfz15_2 := blk_frozen BK34002.out 2; have hfz15_3 := blk_frozen BK34002.out 3; have hfz15_4 := blk_frozen BK34002.out 4))
              go_roundg k1
              case measure => have := HK1.out; omega
              case rel => exact ⟨(x4_1), (wrap64 (x9_1 + 1)), (by first | rfl | (simp; done) | (simp [*]; done)), H', ⟨by have := HK1.out; omega⟩, ⟨by (with_reducible repeat (first | apply Kd.R_alloc | apply Kd.R_drewN | apply Kd.R_drew)); exact Kd.R_mono (Kd.R_far (p := ⟨gb34002, 4, none⟩) (Kd.R_far (p := ⟨gb34002, 3, none⟩) (Kd.R_far (p := ⟨gb34002, 2, none⟩) (Kd.R_far (p := ⟨gb34002, 1, none⟩) (Kd.R_far (p := ⟨gb34002, 0, none⟩) (Kd.R_types HO_4.out BK34002.out (by decide)) (fun _ hk => hk.2) (.string ((rd_T44 l0 x9_1).f0))) (fun _ hk => hk.2) (.slice A34001_1 ((rd_T44 l0 x9_1).f1).length c34001_1)) (fun _ hk => hk.2) (.int .i64 ((rd_T44 l0 x9_1).f2))) (fun _ hk => hk.2) (.slice A34001_3 ((rd_T44 l0 x9_1).f3).length c34001_3)) (fun _ hk => hk.2) (.slice A34001_4 ((rd_T44 l0 x9_1).f4).length c34001_4)) (fun _ hk => trivial)⟩, ⟨by repeat (first | (with_reducible first | exact HB.out | apply below_alloc | apply pw_below_drewN | apply below_drew1 | refine below_set ?_ GE34002.out) | exact HB.out)⟩⟩
          · rw [if_neg c5] at H
            exact absurd H (by simp)
        · rw [if_neg c4] at H
          exact absurd H (by simp)
      · rw [if_neg c3] at H
        have c3b0 : decide (x9_1 < (l0.length : Int)) = false := decide_eq_false c3
        clear c3
        obtain rfl := Option.some.inj H
        go_wp2
        go_ret
        exact ⟨_, by first | rfl | (simp [errW_none, errW_some] <;> rfl) | (simp [*, errW_none, errW_some] <;> rfl), by (with_reducible repeat (first | apply Kd.R_alloc | apply Kd.R_drewN | apply Kd.R_drew)); exact HO_4.out, by repeat (first | (with_reducible first | exact HB.out | apply below_alloc | apply pw_below_drewN | apply below_drew1) | exact HB.out)⟩

end Go.Proofs.YtnalcjgefbelnaaDoor.Q
end
section
namespace Go.Proofs.YtnalcjgefbelnaaDoor.Q
open Go.RowKit Go.Proofs.YtnalcjgefbelnaaDoorW.PrintWords Go.Proofs.YtnalcjgefbelnaaDoorW.PrintLast Go.Proofs.YtnalcjgefbelnaaDoorW.PrintMore
set_option linter.unusedVariables false
set_option linter.unusedSimpArgs false

attribute [local go_sem] max2_int min2_int max_two min_two max_three min_three max_four min_four
/-! ### tinderref08_Get: function 29 -/
def tinderref08_Get.f (k : Nat) (l0 : List (S44)) (a1 : Int) (a2 : ByteArray) : Option (List Int × Int) := (tinderref08_wrong.f k l0 a1).bind fun t30001 => (if t30001 = 0 then (if 0 ≤ a1 then (if a1 < (l0.length : Int) then ((tinderref08_find.f k ((rd_T44 l0 a1).f3) a2).bind fun t30003 => (if t30003 < 0 then (some (([] : List Int), 2)) else (if 0 ≤ t30003 then (if t30003 < (((rd_T44 l0 a1).f3).length : Int) then ((tinderref04_Copy.f ((rd_T53 ((rd_T44 l0 a1).f3) t30003).f1)).bind fun t30006 => (some (t30006, 0))) else (none)) else (none)))) else (none)) else (none)) else (some (([] : List Int), t30001)))
set_option maxHeartbeats 8000000 in
set_option maxRecDepth 100000 in
theorem tinderref08_Get.calls (k : Nat) (A0 : Option Addr) (c0 : Nat) (l0 : List (S44)) (a1 : Int) (a2 : ByteArray) (r1 : List Int) (r2 : Int) (w : World) (hr0 : Kd.C k44 w A0 l0.length l0) (hc0 : l0.length ≤ c0) (h : tinderref08_Get.f k l0 a1 a2 = some (r1, r2)) :
    Calls Tryd.prog 29 #[.slice A0 l0.length c0, .int .i64 a1, .string a2] w fun e w' => ∃ v0_ : Value, e = .returned (.tuple #[v0_, .int .i64 r2]) ∧ Kd.R (Kd.int .u8) 5 w' w.heap.size (fun _ => True) v0_ r1 ∧ Below w.heap.size w w' := by
  have HR0 := Aside0.mk hr0
  have HC0 := Aside0.mk hc0
  clear hr0 hc0
  have HB := Aside0.mk (Below.refl w.heap.size w)
  have H : ((tinderref08_wrong.f k l0 a1).bind fun t30001 => (if t30001 = 0 then (if 0 ≤ a1 then (if a1 < (l0.length : Int) then ((tinderref08_find.f k ((rd_T44 l0 a1).f3) a2).bind fun t30003 => (if t30003 < 0 then (some (([] : List Int), 2)) else (if 0 ≤ t30003 then (if t30003 < (((rd_T44 l0 a1).f3).length : Int) then ((tinderref04_Copy.f ((rd_T53 ((rd_T44 l0 a1).f3) t30003).f1)).bind fun t30006 => (some (t30006, 0))) else (none)) else (none)))) else (none)) else (none)) else (some (([] : List Int), t30001)))) = some (r1, r2) := h
  clear h
  replace H := Option.bind_eq_some_iff.mp H
  obtain ⟨t30001, A40, H⟩ := H
  replace H : (if t30001 = 0 then (if 0 ≤ a1 then (if a1 < (l0.length : Int) then ((tinderref08_find.f k ((rd_T44 l0 a1).f3) a2).bind fun t30003 => (if t30003 < 0 then (some (([] : List Int), 2)) else (if 0 ≤ t30003 then (if t30003 < (((rd_T44 l0 a1).f3).length : Int) then ((tinderref04_Copy.f ((rd_T53 ((rd_T44 l0 a1).f3) t30003).f1)).bind fun t30006 => (some (t30006, 0))) else (none)) else (none)))) else (none)) else (none)) else (some (([] : List Int), t30001))) = some (r1, r2) := H
  have A4 := Aside0.mk A40
  clear A40
  by_cases c5 : t30001 = 0
  · rw [if_pos c5] at H
    have c5b0 : (t30001 == 0) = true := beq_iff_eq.mpr c5
    have c5b1 : (t30001 != 0) = false := bne_eq_false_iff_eq.mpr c5
    clear c5
    by_cases c6 : 0 ≤ a1
    · rw [if_pos c6] at H
      have c6b0 : decide (0 ≤ a1) = true := decide_eq_true c6
      clear c6
      by_cases c7 : a1 < (l0.length : Int)
      · rw [if_pos c7] at H
        have c7b0 : decide (a1 < (l0.length : Int)) = true := decide_eq_true c7
        clear c7
        replace H := Option.bind_eq_some_iff.mp H
        obtain ⟨t30003, A80, H⟩ := H
        replace H : (if t30003 < 0 then (some (([] : List Int), 2)) else (if 0 ≤ t30003 then (if t30003 < (((rd_T44 l0 a1).f3).length : Int) then ((tinderref04_Copy.f ((rd_T53 ((rd_T44 l0 a1).f3) t30003).f1)).bind fun t30006 => (some (t30006, 0))) else (none)) else (none))) = some (r1, r2) := H
        have A8 := Aside0.mk A80
        clear A80
        by_cases c9 : t30003 < 0
        · rw [if_pos c9] at H
          have c9b0 : decide (t30003 < 0) = true := decide_eq_true c9
          clear c9
          simp only [Option.some.injEq, Prod.mk.injEq] at H
          obtain ⟨rfl, rfl⟩ := H
          go_enter Tryd.func29, Tryd.ntmps29
          go_wp2_with (first | ((with_reducible refine gate_callee (f := 54) rfl ?_); refine goesL_ (some 12) rfl rfl Tryd.func54 (by kernel_rfl) rfl #[.slice A0 l0.length c0, .int .i64 a1] rfl (by (try simp only [List.map_toArray, List.map_cons, List.map_nil]); first | done | rfl | (simp only [List.length_drop, List.length_take]; rfl)) ?_; (with_reducible refine (tinderref08_wrong.calls k _ _ l0 a1 t30001 _ ?side1 ?side2 A4.out).mono ?_); (case side1 => repeat (first | exact HR0.out | (with_reducible refine Kd.C_alloc ?_ _) | (with_reducible refine Kd.C_drewN ?_ _) | (with_reducible refine Kd.C_drew ?_))); (case side2 => exact HC0.out); rintro e w10 ⟨rfl, hb⟩; refine ⟨_, rfl, ?_⟩; have n0_ := Aside0.mk (below_step (by repeat (first | (with_reducible first | exact HB.out | apply below_alloc | apply pw_below_drewN | apply below_drew1) | exact HB.out)) hb); clear HB; have HB := n0_; clear n0_; (try clear hb); (try clear hb2); (try clear hk); (try clear hi); have p30002 : 0 ≤ (a1 : Int) := of_decide_eq_true (by first | (with_reducible assumption) | assumption); have q30002 : a1 < (l0.length : Int) := of_decide_eq_true (by first | (with_reducible assumption) | assumption); obtain ⟨ad30002, A30002_1, c30002_1, A30002_3, c30002_3, A30002_4, c30002_4, e30002, hx30002_0, hx30002_1, hx30002_2, hx30002_3, hx30002_4, hl30002_1, hi30002_1, hl30002_3, hi30002_3, hl30002_4, hi30002_4⟩ := at_T44 HR0.out a1 p30002 q30002; cases e30002; replace hx30002_0 := (HB.out.cell (World.block_lt_of_cell? w _ hx30002_0)).trans hx30002_0; replace hx30002_1 := (HB.out.cell (World.block_lt_of_cell? w _ hx30002_1)).trans hx30002_1; replace hx30002_2 := (HB.out.cell (World.block_lt_of_cell? w _ hx30002_2)).trans hx30002_2; replace hx30002_3 := (HB.out.cell (World.block_lt_of_cell? w _ hx30002_3)).trans hx30002_3; replace hx30002_4 := (HB.out.cell (World.block_lt_of_cell? w _ hx30002_4)).trans hx30002_4; have HR30002_1 := Aside0.mk hi30002_1; have HC30002_1 := Aside0.mk hl30002_1; clear hi30002_1 hl30002_1; have HR30002_3 := Aside0.mk hi30002_3; have HC30002_3 := Aside0.mk hl30002_3; clear hi30002_3 hl30002_3; have HR30002_4 := Aside0.mk hi30002_4; have HC30002_4 := Aside0.mk hl30002_4; clear hi30002_4 hl30002_4; replace p30002 := eq_true p30002; replace q30002 := eq_true q30002) | ((with_reducible refine gate_callee (f := 46) rfl ?_); refine goesL_ (some 22) rfl rfl Tryd.func46 (by kernel_rfl) rfl #[.slice A30002_3 ((rd_T44 l0 a1).f3).length c30002_3, .string a2] rfl (by (try simp only [List.map_toArray, List.map_cons, List.map_nil]); first | done | rfl | (simp only [List.length_drop, List.length_take]; rfl)) ?_; (with_reducible refine (tinderref08_find.calls k _ _ ((rd_T44 l0 a1).f3) a2 t30003 _ ?side1 ?side2 A8.out).mono ?_); (case side1 => repeat (first | exact (Kd.C_below HR30002_3.out HB.out) | (with_reducible refine Kd.C_alloc ?_ _) | (with_reducible refine Kd.C_drewN ?_ _) | (with_reducible refine Kd.C_drew ?_))); (case side2 => exact HC30002_3.out); rintro e w' ⟨rfl, ⟨nd, rfl⟩⟩; refine ⟨_, rfl, ?_⟩))
          go_ret2
          exact ⟨_, by first | rfl | (simp [errW_none, errW_some] <;> rfl) | (simp [*, errW_none, errW_some] <;> rfl), by first | exact Kd.R_nil _ _ _ _ _ | exact Kd.N_nil _ _ _ _ _ | exact Kd.V_nil _ _ _ _ _ | exact Kd.Q_nil _ _ _ _ _ | exact Kd.S_nil _ _ _ _ _, by repeat (first | (with_reducible first | exact HB.out | apply below_alloc | apply pw_below_drewN | apply below_drew1) | exact HB.out)⟩
        · rw [if_neg c9] at H
          have c9b0 : decide (t30003 < 0) = false := decide_eq_false c9
          clear c9
          by_cases c11 : 0 ≤ t30003
          · rw [if_pos c11] at H
            have c11b0 : decide (0 ≤ t30003) = true := decide_eq_true c11
            clear c11
            by_cases c12 : t30003 < (((rd_T44 l0 a1).f3).length : Int)
            · rw [if_pos c12] at H
              have c12b0 : decide (t30003 < (((rd_T44 l0 a1).f3).length : Int)) = true := decide_eq_true c12
              clear c12
              replace H := Option.bind_eq_some_iff.mp H
              obtain ⟨t30006, A130, H⟩ := H
              replace H : (some (t30006, 0)) = some (r1, r2) := H
              have A13 := Aside0.mk A130
              clear A130
              simp only [Option.some.injEq, Prod.mk.injEq] at H
              obtain ⟨rfl, rfl⟩ := H
              go_enter Tryd.func29, Tryd.ntmps29
              go_wp2_with (first | ((with_reducible refine gate_callee (f := 54) rfl ?_); refine goesL_ (some 12) rfl rfl Tryd.func54 (by kernel_rfl) rfl #[.slice A0 l0.length c0, .int .i64 a1] rfl (by (try simp only [List.map_toArray, List.map_cons, List.map_nil]); first | done | rfl | (simp only [List.length_drop, List.length_take]; rfl)) ?_; (with_reducible refine (tinderref08_wrong.calls k _ _ l0 a1 t30001 _ ?side1 ?side2 A4.out).mono ?_); (case side1 => repeat (first | exact HR0.out | (with_reducible refine Kd.C_alloc ?_ _) | (with_reducible refine Kd.C_drewN ?_ _) | (with_reducible refine Kd.C_drew ?_))); (case side2 => exact HC0.out); rintro e w14 ⟨rfl, hb⟩; refine ⟨_, rfl, ?_⟩; have n0_ := Aside0.mk (below_step (by repeat (first | (with_reducible first | exact HB.out | apply below_alloc | apply pw_below_drewN | apply below_drew1) | exact HB.out)) hb); clear HB; have HB := n0_; clear n0_; (try clear hb); (try clear hb2); (try clear hk); (try clear hi); have p30002 : 0 ≤ (a1 : Int) := of_decide_eq_true (by first | (with_reducible assumption) | assumption); have q30002 : a1 < (l0.length : Int) := of_decide_eq_true (by first | (with_reducible assumption) | assumption); obtain ⟨ad30002, A30002_1, c30002_1, A30002_3, c30002_3, A30002_4, c30002_4, e30002, hx30002_0, hx30002_1, hx30002_2, hx30002_3, hx30002_4, hl30002_1, hi30002_1, hl30002_3, hi30002_3, hl30002_4, hi30002_4⟩ := at_T44 HR0.out a1 p30002 q30002; cases e30002; replace hx30002_0 := (HB.out.cell (World.block_lt_of_cell? w _ hx30002_0)).trans hx30002_0; replace hx30002_1 := (HB.out.cell (World.block_lt_of_cell? w _ hx30002_1)).trans hx30002_1; replace hx30002_2 := (HB.out.cell (World.block_lt_of_cell? w _ hx30002_2)).trans hx30002_2; replace hx30002_3 := (HB.out.cell (World.block_lt_of_cell? w _ hx30002_3)).trans hx30002_3; replace hx30002_4 := (HB.out.cell (World.block_lt_of_cell? w _ hx30002_4)).trans hx30002_4; have HR30002_1 := Aside0.mk hi30002_1; have HC30002_1 := Aside0.mk hl30002_1; clear hi30002_1 hl30002_1; have HR30002_3 := Aside0.mk hi30002_3; have HC30002_3 := Aside0.mk hl30002_3; clear hi30002_3 hl30002_3; have HR30002_4 := Aside0.mk hi30002_4; have HC30002_4 := Aside0.mk hl30002_4; clear hi30002_4 hl30002_4; replace p30002 := eq_true p30002; replace q30002 := eq_true q30002) | ((with_reducible refine gate_callee (f := 46) rfl ?_); refine goesL_ (some 22) rfl rfl Tryd.func46 (by kernel_rfl) rfl #[.slice A30002_3 ((rd_T44 l0 a1).f3).length c30002_3, .string a2] rfl (by (try simp only [List.map_toArray, List.map_cons, List.map_nil]); first | done | rfl | (simp only [List.length_drop, List.length_take]; rfl)) ?_; (with_reducible refine (tinderref08_find.calls k _ _ ((rd_T44 l0 a1).f3) a2 t30003 _ ?side1 ?side2 A8.out).mono ?_); (case side1 => repeat (first | exact (Kd.C_below HR30002_3.out HB.out) | (with_reducible refine Kd.C_alloc ?_ _) | (with_reducible refine Kd.C_drewN ?_ _) | (with_reducible refine Kd.C_drew ?_))); (case side2 => exact HC30002_3.out); rintro e w' ⟨rfl, ⟨nd, rfl⟩⟩; refine ⟨_, rfl, ?_⟩; have p30004 : 0 ≤ (a1 : Int) := of_decide_eq_true (by first | (with_reducible assumption) | assumption); have q30004 : a1 < (l0.length : Int) := of_decide_eq_true (by first | (with_reducible assumption) | assumption); obtain ⟨ad30004, A30004_1, c30004_1, A30004_3, c30004_3, A30004_4, c30004_4, e30004, hx30004_0, hx30004_1, hx30004_2, hx30004_3, hx30004_4, hl30004_1, hi30004_1, hl30004_3, hi30004_3, hl30004_4, hi30004_4⟩ := at_T44 HR0.out a1 p30004 q30004; obtain rfl : ad30002 = ad30004 := (by injection e30004); replace hx30004_0 := (HB.out.cell (World.block_lt_of_cell? w _ hx30004_0)).trans hx30004_0; replace hx30004_1 := (HB.out.cell (World.block_lt_of_cell? w _ hx30004_1)).trans hx30004_1; replace hx30004_2 := (HB.out.cell (World.block_lt_of_cell? w _ hx30004_2)).trans hx30004_2; replace hx30004_3 := (HB.out.cell (World.block_lt_of_cell? w _ hx30004_3)).trans hx30004_3; replace hx30004_4 := (HB.out.cell (World.block_lt_of_cell? w _ hx30004_4)).trans hx30004_4; have HR30004_1 := Aside0.mk hi30004_1; have HC30004_1 := Aside0.mk hl30004_1; clear hi30004_1 hl30004_1; have HR30004_3 := Aside0.mk hi30004_3; have HC30004_3 := Aside0.mk hl30004_3; clear hi30004_3 hl30004_3; have HR30004_4 := Aside0.mk hi30004_4; have HC30004_4 := Aside0.mk hl30004_4; clear hi30004_4 hl30004_4; replace p30004 := eq_true p30004; replace q30004 := eq_true q30004; have ea_ := Option.some.inj (hx30002_1.symm.trans hx30004_1); injection ea_ with ea_ en_ ec_; subst ea_; subst ec_; clear en_; have ea_ := Option.some.inj (hx30002_3.symm.trans hx30004_3); injection ea_ with ea_ en_ ec_; subst ea_; subst ec_; clear en_; have ea_ := Option.some.inj (hx30002_4.symm.trans hx30004_4); injection ea_ with ea_ en_ ec_; subst ea_; subst ec_; clear en_; have p30005 : 0 ≤ (t30003 : Int) := of_decide_eq_true (by first | (with_reducible assumption) | assumption); have q30005 : t30003 < (((rd_T44 l0 a1).f3).length : Int) := of_decide_eq_true (by first | (with_reducible assumption) | assumption); obtain ⟨ad30005, A30005_1, c30005_1, e30005, hx30005_0, hx30005_1, hl30005_1, hi30005_1⟩ := at_T53 HR30004_3.out t30003 p30005 q30005; cases e30005; replace hx30005_0 := (HB.out.cell (World.block_lt_of_cell? w _ hx30005_0)).trans hx30005_0; replace hx30005_1 := (HB.out.cell (World.block_lt_of_cell? w _ hx30005_1)).trans hx30005_1; have HR30005_1 := Aside0.mk hi30005_1; have HC30005_1 := Aside0.mk hl30005_1; clear hi30005_1 hl30005_1; replace p30005 := eq_true p30005; replace q30005 := eq_true q30005) | ((with_reducible refine gate_callee (f := 52) rfl ?_); refine goesL_ (some 34) rfl rfl Tryd.func52 (by kernel_rfl) rfl #[.slice A30005_1 ((rd_T53 ((rd_T44 l0 a1).f3) t30003).f1).length c30005_1] rfl (by (try simp only [List.map_toArray, List.map_cons, List.map_nil]); first | done | rfl | (simp only [List.length_drop, List.length_take]; rfl)) ?_; (with_reducible refine (tinderref04_Copy.calls _ _ ((rd_T53 ((rd_T44 l0 a1).f3) t30003).f1) t30006 _ ?side1 ?side2 A13.out).mono ?_); (case side1 => repeat (first | exact (Kd.C_below HR30005_1.out (by repeat (first | (with_reducible first | exact HB.out | apply below_alloc | apply pw_below_drewN | apply below_drew1) | exact HB.out))) | (with_reducible refine Kd.C_alloc ?_ _) | (with_reducible refine Kd.C_drewN ?_ _) | (with_reducible refine Kd.C_drew ?_))); (case side2 => exact HC30005_1.out); rintro e w15 ⟨v30007, rfl, ho0, hb⟩; refine ⟨_, rfl, ?_⟩; have n0_ := Aside0.mk (Kd.R_lower ho0 (below_size (by repeat (first | (with_reducible first | exact HB.out | apply below_alloc | apply pw_below_drewN | apply below_drew1) | exact HB.out)))); have n1_ := Aside0.mk (below_step (by repeat (first | (with_reducible first | exact HB.out | apply below_alloc | apply pw_below_drewN | apply below_drew1) | exact HB.out)) hb); clear HB; have HO30008 := n0_; have HB := n1_; clear n0_ n1_; (try clear hb); (try clear hb2); (try clear hk); (try clear hi); (try clear ho0)))
              go_ret2
              exact ⟨_, by first | rfl | (simp [errW_none, errW_some] <;> rfl) | (simp [*, errW_none, errW_some] <;> rfl), by (with_reducible repeat (first | apply Kd.R_alloc | apply Kd.R_drewN | apply Kd.R_drew)); exact HO30008.out, by repeat (first | (with_reducible first | exact HB.out | apply below_alloc | apply pw_below_drewN | apply below_drew1) | exact HB.out)⟩
            · rw [if_neg c12] at H
              exact absurd H (by simp)
          · rw [if_neg c11] at H
            exact absurd H (by simp)
      · rw [if_neg c7] at H
        exact absurd H (by simp)
    · rw [if_neg c6] at H
      exact absurd H (by simp)
  · rw [if_neg c5] at H
    have c5b0 : (t30001 == 0) = false := beq_eq_false_iff_ne.mpr c5
    have c5b1 : (t30001 != 0) = true := bne_iff_ne.mpr c5
    simp only [Option.some.injEq, Prod.mk.injEq] at H
    obtain ⟨rfl, rfl⟩ := H
    go_enter Tryd.func29, Tryd.ntmps29
    go_wp2_with (first | ((with_reducible refine gate_callee (f := 54) rfl ?_); refine goesL_ (some 12) rfl rfl Tryd.func54 (by kernel_rfl) rfl #[.slice A0 l0.length c0, .int .i64 a1] rfl (by (try simp only [List.map_toArray, List.map_cons, List.map_nil]); first | done | rfl | (simp only [List.length_drop, List.length_take]; rfl)) ?_; (with_reducible refine (tinderref08_wrong.calls k _ _ l0 a1 t30001 _ ?side1 ?side2 A4.out).mono ?_); (case side1 => repeat (first | exact HR0.out | (with_reducible refine Kd.C_alloc ?_ _) | (with_reducible refine Kd.C_drewN ?_ _) | (with_reducible refine Kd.C_drew ?_))); (case side2 => exact HC0.out); rintro e w16 ⟨rfl, hb⟩; refine ⟨_, rfl, ?_⟩; have n0_ := Aside0.mk (below_step (by repeat (first | (with_reducible first | exact HB.out | apply below_alloc | apply pw_below_drewN | apply below_drew1) | exact HB.out)) hb); clear HB; have HB := n0_; clear n0_; (try clear hb); (try clear hb2); (try clear hk); (try clear hi)))
    go_ret2
    exact ⟨_, by first | rfl | (simp [errW_none, errW_some] <;> rfl) | (simp [*, errW_none, errW_some] <;> rfl), by first | exact Kd.R_nil _ _ _ _ _ | exact Kd.N_nil _ _ _ _ _ | exact Kd.V_nil _ _ _ _ _ | exact Kd.Q_nil _ _ _ _ _ | exact Kd.S_nil _ _ _ _ _, by repeat (first | (with_reducible first | exact HB.out | apply below_alloc | apply pw_below_drewN | apply below_drew1) | exact HB.out)⟩

end Go.Proofs.YtnalcjgefbelnaaDoor.Q
end
section
namespace Go.Proofs.YtnalcjgefbelnaaDoor.Q
open Go.RowKit Go.Proofs.YtnalcjgefbelnaaDoorW.PrintWords Go.Proofs.YtnalcjgefbelnaaDoorW.PrintLast Go.Proofs.YtnalcjgefbelnaaDoorW.PrintMore
set_option linter.unusedVariables false
set_option linter.unusedSimpArgs false

attribute [local go_sem] max2_int min2_int max_two min_two max_three min_three max_four min_four
/-! ### tinderref08_Next: function 30 -/
def tinderref08_Next.j0 : Nat → List (S44) → Int → Int → Bool → Option (ByteArray × Int)
  | 0, _, _, _, _ => none
  | k + 1, x0, x1, x9, x28 => if x28 = true then (some ((⟨#[]⟩ : ByteArray), 2)) else (if 0 ≤ x1 then (if x1 < (x0.length : Int) then (if (wrap64 (x9 + 1)) < (((rd_T44 x0 x1).f3).length : Int) then (if 0 ≤ (wrap64 (x9 + 1)) then (some ((rd_T53 ((rd_T44 x0 x1).f3) (wrap64 (x9 + 1))).f0, 0)) else (none)) else (some ((⟨#[]⟩ : ByteArray), 0))) else (none)) else (none))
def tinderref08_Next.f (k : Nat) (l0 : List (S44)) (a1 : Int) (a2 : ByteArray) : Option (ByteArray × Int) := (tinderref08_wrong.f k l0 a1).bind fun t31001 => (if t31001 = 0 then (if 0 ≤ a1 then (if a1 < (l0.length : Int) then ((tinderref08_find.f k ((rd_T44 l0 a1).f3) a2).bind fun t31003 => (if t31003 < 0 then (tinderref08_Next.j0 k l0 a1 t31003 (a2.toList != ([] : List UInt8))) else (tinderref08_Next.j0 k l0 a1 t31003 false))) else (none)) else (none)) else (some ((⟨#[]⟩ : ByteArray), t31001)))
set_option maxHeartbeats 8000000 in
set_option maxRecDepth 100000 in
theorem tinderref08_Next.calls (k : Nat) (A0 : Option Addr) (c0 : Nat) (l0 : List (S44)) (a1 : Int) (a2 : ByteArray) (r1 : ByteArray) (r2 : Int) (w : World) (hr0 : Kd.C k44 w A0 l0.length l0) (hc0 : l0.length ≤ c0) (h : tinderref08_Next.f k l0 a1 a2 = some (r1, r2)) :
    Calls Tryd.prog 30 #[.slice A0 l0.length c0, .int .i64 a1, .string a2] w fun e w' => e = .returned (.tuple #[.string r1, .int .i64 r2]) ∧ Below w.heap.size w w' := by
  have HR0 := Aside0.mk hr0
  have HC0 := Aside0.mk hc0
  clear hr0 hc0
  have HB := Aside0.mk (Below.refl w.heap.size w)
  have H : ((tinderref08_wrong.f k l0 a1).bind fun t31001 => (if t31001 = 0 then (if 0 ≤ a1 then (if a1 < (l0.length : Int) then ((tinderref08_find.f k ((rd_T44 l0 a1).f3) a2).bind fun t31003 => (if t31003 < 0 then (tinderref08_Next.j0 k l0 a1 t31003 (a2.toList != ([] : List UInt8))) else (tinderref08_Next.j0 k l0 a1 t31003 false))) else (none)) else (none)) else (some ((⟨#[]⟩ : ByteArray), t31001)))) = some (r1, r2) := h
  clear h
  replace H := Option.bind_eq_some_iff.mp H
  obtain ⟨t31001, A40, H⟩ := H
  replace H : (if t31001 = 0 then (if 0 ≤ a1 then (if a1 < (l0.length : Int) then ((tinderref08_find.f k ((rd_T44 l0 a1).f3) a2).bind fun t31003 => (if t31003 < 0 then (tinderref08_Next.j0 k l0 a1 t31003 (a2.toList != ([] : List UInt8))) else (tinderref08_Next.j0 k l0 a1 t31003 false))) else (none)) else (none)) else (some ((⟨#[]⟩ : ByteArray), t31001))) = some (r1, r2) := H
  have A4 := Aside0.mk A40
  clear A40
  by_cases c5 : t31001 = 0
  · rw [if_pos c5] at H
    have c5b0 : (t31001 == 0) = true := beq_iff_eq.mpr c5
    have c5b1 : (t31001 != 0) = false := bne_eq_false_iff_eq.mpr c5
    clear c5
    by_cases c6 : 0 ≤ a1
    · rw [if_pos c6] at H
      have c6b0 : decide (0 ≤ a1) = true := decide_eq_true c6
      clear c6
      by_cases c7 : a1 < (l0.length : Int)
      · rw [if_pos c7] at H
        have c7b0 : decide (a1 < (l0.length : Int)) = true := decide_eq_true c7
        clear c7
        replace H := Option.bind_eq_some_iff.mp H
        obtain ⟨t31003, A80, H⟩ := H
        replace H : (if t31003 < 0 then (tinderref08_Next.j0 k l0 a1 t31003 (a2.toList != ([] : List UInt8))) else (tinderref08_Next.j0 k l0 a1 t31003 false)) = some (r1, r2) := H
        have A8 := Aside0.mk A80
        clear A80
        have HC9 := Aside0.mk H
        clear H
        go_enter Tryd.func30, Tryd.ntmps30
        go_upto_region 5 with (first | ((with_reducible refine gate_callee (f := 54) rfl ?_); refine goesL_ (some 12) rfl rfl Tryd.func54 (by kernel_rfl) rfl #[.slice A0 l0.length c0, .int .i64 a1] rfl (by (try simp only [List.map_toArray, List.map_cons, List.map_nil]); first | done | rfl | (simp only [List.length_drop, List.length_take]; rfl)) ?_; (with_reducible refine (tinderref08_wrong.calls k _ _ l0 a1 t31001 _ ?side1 ?side2 A4.out).mono ?_); (case side1 => repeat (first | exact HR0.out | (with_reducible refine Kd.C_alloc ?_ _) | (with_reducible refine Kd.C_drewN ?_ _) | (with_reducible refine Kd.C_drew ?_))); (case side2 => exact HC0.out); rintro e w10 ⟨rfl, hb⟩; refine ⟨_, rfl, ?_⟩; have n0_ := Aside0.mk (below_step (by repeat (first | (with_reducible first | exact HB.out | apply below_alloc | apply pw_below_drewN | apply below_drew1) | exact HB.out)) hb); clear HB; have HB := n0_; clear n0_; (try clear hb); (try clear hb2); (try clear hk); (try clear hi); have p31002 : 0 ≤ (a1 : Int) := of_decide_eq_true (by first | (with_reducible assumption) | assumption); have q31002 : a1 < (l0.length : Int) := of_decide_eq_true (by first | (with_reducible assumption) | assumption); obtain ⟨ad31002, A31002_1, c31002_1, A31002_3, c31002_3, A31002_4, c31002_4, e31002, hx31002_0, hx31002_1, hx31002_2, hx31002_3, hx31002_4, hl31002_1, hi31002_1, hl31002_3, hi31002_3, hl31002_4, hi31002_4⟩ := at_T44 HR0.out a1 p31002 q31002; cases e31002; replace hx31002_0 := (HB.out.cell (World.block_lt_of_cell? w _ hx31002_0)).trans hx31002_0; replace hx31002_1 := (HB.out.cell (World.block_lt_of_cell? w _ hx31002_1)).trans hx31002_1; replace hx31002_2 := (HB.out.cell (World.block_lt_of_cell? w _ hx31002_2)).trans hx31002_2; replace hx31002_3 := (HB.out.cell (World.block_lt_of_cell? w _ hx31002_3)).trans hx31002_3; replace hx31002_4 := (HB.out.cell (World.block_lt_of_cell? w _ hx31002_4)).trans hx31002_4; have HR31002_1 := Aside0.mk hi31002_1; have HC31002_1 := Aside0.mk hl31002_1; clear hi31002_1 hl31002_1; have HR31002_3 := Aside0.mk hi31002_3; have HC31002_3 := Aside0.mk hl31002_3; clear hi31002_3 hl31002_3; have HR31002_4 := Aside0.mk hi31002_4; have HC31002_4 := Aside0.mk hl31002_4; clear hi31002_4 hl31002_4; replace p31002 := eq_true p31002; replace q31002 := eq_true q31002) | ((with_reducible refine gate_callee (f := 46) rfl ?_); refine goesL_ (some 22) rfl rfl Tryd.func46 (by kernel_rfl) rfl #[.slice A31002_3 ((rd_T44 l0 a1).f3).length c31002_3, .string a2] rfl (by (try simp only [List.map_toArray, List.map_cons, List.map_nil]); first | done | rfl | (simp only [List.length_drop, List.length_take]; rfl)) ?_; (with_reducible refine (tinderref08_find.calls k _ _ ((rd_T44 l0 a1).f3) a2 t31003 _ ?side1 ?side2 A8.out).mono ?_); (case side1 => repeat (first | exact (Kd.C_below HR31002_3.out HB.out) | (with_reducible refine Kd.C_alloc ?_ _) | (with_reducible refine Kd.C_drewN ?_ _) | (with_reducible refine Kd.C_drew ?_))); (case side2 => exact HC31002_3.out); rintro e w' ⟨rfl, ⟨nd, rfl⟩⟩; refine ⟨_, rfl, ?_⟩))
        (try simp only [Act.put, List.setIfInBounds_toArray, List.set_cons_zero, List.set_cons_succ])
        go_cut [28] (fun v28 wc => ∃ (kq : Nat) (x28_8 : Bool), v28 = .bool x28_8 ∧ Aside0 (tinderref08_Next.j0 kq l0 a1 t31003 x28_8 = some (r1, r2)) ∧ Aside0 (kq ≤ k) ∧ Aside0 (Below w.heap.size w wc))
        case first =>
          have H := HC9.out
          clear HC9
          by_cases c11 : t31003 < 0
          · rw [if_pos c11] at H
            have c11b0 : decide (t31003 < 0) = true := decide_eq_true c11
            clear c11
            (first | rw [c11b0] | (simp only [i64_w, i32_w]; rw [c11b0]) | skip)
            have H' := Aside0.mk H
            clear H
            go_wp2
            go_meet
            case rel => exact ⟨_, ((a2.toList != ([] : List UInt8))), (by first | rfl | (simp; done) | (simp [*]; done) | (simp; cases a2.toList <;> rfl)), H', ⟨by first | omega | exact Nat.le_refl _⟩, ⟨by repeat (first | (with_reducible first | exact HB.out | apply below_alloc | apply pw_below_drewN | apply below_drew1) | exact HB.out)⟩⟩
          · rw [if_neg c11] at H
            have c11b0 : decide (t31003 < 0) = false := decide_eq_false c11
            clear c11
            (first | rw [c11b0] | (simp only [i64_w, i32_w]; rw [c11b0]) | skip)
            have H' := Aside0.mk H
            clear H
            go_wp2
            go_meet
            case rel => exact ⟨_, (false), (by first | rfl | (simp; done) | (simp [*]; done) | (simp; cases a2.toList <;> rfl)), H', ⟨by first | omega | exact Nat.le_refl _⟩, ⟨by repeat (first | (with_reducible first | exact HB.out | apply below_alloc | apply pw_below_drewN | apply below_drew1) | exact HB.out)⟩⟩
        case rest =>
          clear HC9
          try clear c1
          try clear p2
          try clear c3
          try clear p3
          try clear q3
          try clear hx3
          try clear c4
          try clear c5
          try clear c5b0
          try clear c5b1
          try clear c6
          try clear c6b0
          try clear c7
          try clear c7b0
          try clear c11
          try clear c11b0
          try clear hx31002_0
          try clear hx31002_1
          try clear hx31002_2
          try clear hx31002_3
          try clear hx31002_4
          try clear p31002
          try clear q31002
          obtain ⟨kq, x28_8, rfl, HA, HJ8, HB⟩ := hcut
          cases kq with
          | zero => exact absurd HA.out (by simp [tinderref08_Next.j0])
          | succ kj8 =>
            have H := HA.out
            clear HA
            simp only [tinderref08_Next.j0] at H
            by_cases c12 : x28_8 = true
            · subst c12
              have H1 : (some ((⟨#[]⟩ : ByteArray), 2)) = some (r1, r2) := by rw [if_pos rfl] at H; exact H
              clear H
              have H := H1
              clear H1
              simp only [Option.some.injEq, Prod.mk.injEq] at H
              obtain ⟨rfl, rfl⟩ := H
              go_wp2
              go_ret2
              exact ⟨by first | rfl | (simp [errW_none, errW_some] <;> rfl) | (simp [*, errW_none, errW_some] <;> rfl), by repeat (first | (with_reducible first | exact HB.out | apply below_alloc | apply pw_below_drewN | apply below_drew1) | exact HB.out)⟩
            · replace c12 := Bool.eq_false_iff.mpr c12
              subst c12
              have H1 : (if 0 ≤ a1 then (if a1 < (l0.length : Int) then (if (wrap64 (t31003 + 1)) < (((rd_T44 l0 a1).f3).length : Int) then (if 0 ≤ (wrap64 (t31003 + 1)) then (some ((rd_T53 ((rd_T44 l0 a1).f3) (wrap64 (t31003 + 1))).f0, 0)) else (none)) else (some ((⟨#[]⟩ : ByteArray), 0))) else (none)) else (none)) = some (r1, r2) := by rw [if_neg (show ¬ (false = true) by decide)] at H; exact H
              clear H
              have H := H1
              clear H1
              by_cases c13 : 0 ≤ a1
              · rw [if_pos c13] at H
                have c13b0 : decide (0 ≤ a1) = true := decide_eq_true c13
                clear c13
                by_cases c14 : a1 < (l0.length : Int)
                · rw [if_pos c14] at H
                  have c14b0 : decide (a1 < (l0.length : Int)) = true := decide_eq_true c14
                  clear c14
                  by_cases c15 : (wrap64 (t31003 + 1)) < (((rd_T44 l0 a1).f3).length : Int)
                  · rw [if_pos c15] at H
                    have c15b0 : decide ((wrap64 (t31003 + 1)) < (((rd_T44 l0 a1).f3).length : Int)) = true := decide_eq_true c15
                    clear c15
                    obtain ⟨ji16, hji16⟩ : ∃ j_ : Int, (wrap64 (t31003 + 1)) = j_ := ⟨_, rfl⟩
                    replace H : (if 0 ≤ (ji16) then (some ((rd_T53 ((rd_T44 l0 a1).f3) (ji16)).f0, 0)) else (none)) = some (r1, r2) := by first | (rw [hji16] at H; exact H) | (simp only [hji16] at H ⊢; exact H)
                    (try rw [hji16] at c15b0)
                    have hji16w : (IntKind.i64.wrap (t31003 + 1)) = ji16 := (i64_w _).trans hji16
                    by_cases c17 : 0 ≤ (ji16)
                    · rw [if_pos c17] at H
                      have c17b0 : decide (0 ≤ (ji16)) = true := decide_eq_true c17
                      clear c17
                      simp only [Option.some.injEq, Prod.mk.injEq] at H
                      obtain ⟨rfl, rfl⟩ := H
                      have p31004 : 0 ≤ (a1 : Int) := of_decide_eq_true (by first | (with_reducible assumption) | assumption)
                      have q31004 : a1 < (l0.length : Int) := of_decide_eq_true (by first | (with_reducible assumption) | assumption)
                      obtain ⟨ad31004, A31004_1, c31004_1, A31004_3, c31004_3, A31004_4, c31004_4, e31004, hx31004_0, hx31004_1, hx31004_2, hx31004_3, hx31004_4, hl31004_1, hi31004_1, hl31004_3, hi31004_3, hl31004_4, hi31004_4⟩ := at_T44 HR0.out a1 p31004 q31004
                      obtain rfl : ad31002 = ad31004 := (by injection e31004)
                      replace hx31004_0 := (HB.out.cell (World.block_lt_of_cell? w _ hx31004_0)).trans hx31004_0
                      replace hx31004_1 := (HB.out.cell (World.block_lt_of_cell? w _ hx31004_1)).trans hx31004_1
                      replace hx31004_2 := (HB.out.cell (World.block_lt_of_cell? w _ hx31004_2)).trans hx31004_2
                      replace hx31004_3 := (HB.out.cell (World.block_lt_of_cell? w _ hx31004_3)).trans hx31004_3
                      replace hx31004_4 := (HB.out.cell (World.block_lt_of_cell? w _ hx31004_4)).trans hx31004_4
                      have HR31004_1 := Aside0.mk hi31004_1
                      have HC31004_1 := Aside0.mk hl31004_1
                      clear hi31004_1 hl31004_1
                      have HR31004_3 := Aside0.mk hi31004_3
                      have HC31004_3 := Aside0.mk hl31004_3
                      clear hi31004_3 hl31004_3
                      have HR31004_4 := Aside0.mk hi31004_4
                      have HC31004_4 := Aside0.mk hl31004_4
                      clear hi31004_4 hl31004_4
                      replace p31004 := eq_true p31004
                      replace q31004 := eq_true q31004
                      have p31005 : 0 ≤ (a1 : Int) := of_decide_eq_true (by first | (with_reducible assumption) | assumption)
                      have q31005 : a1 < (l0.length : Int) := of_decide_eq_true (by first | (with_reducible assumption) | assumption)
                      obtain ⟨ad31005, A31005_1, c31005_1, A31005_3, c31005_3, A31005_4, c31005_4, e31005, hx31005_0, hx31005_1, hx31005_2, hx31005_3, hx31005_4, hl31005_1, hi31005_1, hl31005_3, hi31005_3, hl31005_4, hi31005_4⟩ := at_T44 HR0.out a1 p31005 q31005
                      obtain rfl : ad31002 = ad31005 := (by injection e31005)
                      replace hx31005_0 := (HB.out.cell (World.block_lt_of_cell? w _ hx31005_0)).trans hx31005_0
                      replace hx31005_1 := (HB.out.cell (World.block_lt_of_cell? w _ hx31005_1)).trans hx31005_1
                      replace hx31005_2 := (HB.out.cell (World.block_lt_of_cell? w _ hx31005_2)).trans hx31005_2
                      replace hx31005_3 := (HB.out.cell (World.block_lt_of_cell? w _ hx31005_3)).trans hx31005_3
                      replace hx31005_4 := (HB.out.cell (World.block_lt_of_cell? w _ hx31005_4)).trans hx31005_4
                      have HR31005_1 := Aside0.mk hi31005_1
                      have HC31005_1 := Aside0.mk hl31005_1
                      clear hi31005_1 hl31005_1
                      have HR31005_3 := Aside0.mk hi31005_3
                      have HC31005_3 := Aside0.mk hl31005_3
                      clear hi31005_3 hl31005_3
                      have HR31005_4 := Aside0.mk hi31005_4
                      have HC31005_4 := Aside0.mk hl31005_4
                      clear hi31005_4 hl31005_4
                      replace p31005 := eq_true p31005
                      replace q31005 := eq_true q31005
                      have ea_ := Option.some.inj (hx31004_1.symm.trans hx31005_1)
                      injection ea_ with ea_ en_ ec_
                      subst ea_
                      subst ec_
                      clear en_
                      have ea_ := Option.some.inj (hx31004_3.symm.trans hx31005_3)
                      injection ea_ with ea_ en_ ec_
                      subst ea_
                      subst ec_
                      clear en_
                      have ea_ := Option.some.inj (hx31004_4.symm.trans hx31005_4)
                      injection ea_ with ea_ en_ ec_
                      subst ea_
                      subst ec_
                      clear en_
                      have p31006 : 0 ≤ ((ji16) : Int) := of_decide_eq_true (by first | (with_reducible assumption) | assumption)
                      have q31006 : (ji16) < (((rd_T44 l0 a1).f3).length : Int) := of_decide_eq_true (by first | (with_reducible assumption) | assumption)
                      obtain ⟨ad31006, A31006_1, c31006_1, e31006, hx31006_0, hx31006_1, hl31006_1, hi31006_1⟩ := at_T53 HR31005_3.out (ji16) p31006 q31006
                      cases e31006
                      replace hx31006_0 := (HB.out.cell (World.block_lt_of_cell? w _ hx31006_0)).trans hx31006_0
                      replace hx31006_1 := (HB.out.cell (World.block_lt_of_cell? w _ hx31006_1)).trans hx31006_1
                      have HR31006_1 := Aside0.mk hi31006_1
                      have HC31006_1 := Aside0.mk hl31006_1
                      clear hi31006_1 hl31006_1
                      replace p31006 := eq_true p31006
                      replace q31006 := eq_true q31006
                      go_wp2
                      go_ret2
                      exact ⟨by first | rfl | (simp [errW_none, errW_some] <;> rfl) | (simp only [← hji16]; first | rfl | (simp [errW_none, errW_some] <;> rfl)) | (simp [*, errW_none, errW_some] <;> rfl), by repeat (first | (with_reducible first | exact HB.out | apply below_alloc | apply pw_below_drewN | apply below_drew1) | exact HB.out)⟩
                    · rw [if_neg c17] at H
                      exact absurd H (by simp)
                  · rw [if_neg c15] at H
                    have c15b0 : decide ((wrap64 (t31003 + 1)) < (((rd_T44 l0 a1).f3).length : Int)) = false := decide_eq_false c15
                    clear c15
                    simp only [Option.some.injEq, Prod.mk.injEq] at H
                    obtain ⟨rfl, rfl⟩ := H
                    have p31004 : 0 ≤ (a1 : Int) := of_decide_eq_true (by first | (with_reducible assumption) | assumption)
                    have q31004 : a1 < (l0.length : Int) := of_decide_eq_true (by first | (with_reducible assumption) | assumption)
                    obtain ⟨ad31004, A31004_1, c31004_1, A31004_3, c31004_3, A31004_4, c31004_4, e31004, hx31004_0, hx31004_1, hx31004_2, hx31004_3, hx31004_4, hl31004_1, hi31004_1, hl31004_3, hi31004_3, hl31004_4, hi31004_4⟩ := at_T44 HR0.out a1 p31004 q31004
                    obtain rfl : ad31002 = ad31004 := (by injection e31004)
                    replace hx31004_0 := (HB.out.cell (World.block_lt_of_cell? w _ hx31004_0)).trans hx31004_0
                    replace hx31004_1 := (HB.out.cell (World.block_lt_of_cell? w _ hx31004_1)).trans hx31004_1
                    replace hx31004_2 := (HB.out.cell (World.block_lt_of_cell? w _ hx31004_2)).trans hx31004_2
                    replace hx31004_3 := (HB.out.cell (World.block_lt_of_cell? w _ hx31004_3)).trans hx31004_3
                    replace hx31004_4 := (HB.out.cell (World.block_lt_of_cell? w _ hx31004_4)).trans hx31004_4
                    have HR31004_1 := Aside0.mk hi31004_1
                    have HC31004_1 := Aside0.mk hl31004_1
                    clear hi31004_1 hl31004_1
                    have HR31004_3 := Aside0.mk hi31004_3
                    have HC31004_3 := Aside0.mk hl31004_3
                    clear hi31004_3 hl31004_3
                    have HR31004_4 := Aside0.mk hi31004_4
                    have HC31004_4 := Aside0.mk hl31004_4
                    clear hi31004_4 hl31004_4
                    replace p31004 := eq_true p31004
                    replace q31004 := eq_true q31004
                    go_wp2
                    go_ret2
                    exact ⟨by first | rfl | (simp [errW_none, errW_some] <;> rfl) | (simp [*, errW_none, errW_some] <;> rfl), by repeat (first | (with_reducible first | exact HB.out | apply below_alloc | apply pw_below_drewN | apply below_drew1) | exact HB.out)⟩
                · rw [if_neg c14] at H
                  exact absurd H (by simp)
              · rw [if_neg c13] at H
                exact absurd H (by simp)
      · rw [if_neg c7] at H
        exact absurd H (by simp)
    · rw [if_neg c6] at H
      exact absurd H (by simp)
  · rw [if_neg c5] at H
    have c5b0 : (t31001 == 0) = false := beq_eq_false_iff_ne.mpr c5
    have c5b1 : (t31001 != 0) = true := bne_iff_ne.mpr c5
    simp only [Option.some.injEq, Prod.mk.injEq] at H
    obtain ⟨rfl, rfl⟩ := H
    go_enter Tryd.func30, Tryd.ntmps30
    go_wp2_with (first | ((with_reducible refine gate_callee (f := 54) rfl ?_); refine goesL_ (some 12) rfl rfl Tryd.func54 (by kernel_rfl) rfl #[.slice A0 l0.length c0, .int .i64 a1] rfl (by (try simp only [List.map_toArray, List.map_cons, List.map_nil]); first | done | rfl | (simp only [List.length_drop, List.length_take]; rfl)) ?_; (with_reducible refine (tinderref08_wrong.calls k _ _ l0 a1 t31001 _ ?side1 ?side2 A4.out).mono ?_); (case side1 => repeat (first | exact HR0.out | (with_reducible refine Kd.C_alloc ?_ _) | (with_reducible refine Kd.C_drewN ?_ _) | (with_reducible refine Kd.C_drew ?_))); (case side2 => exact HC0.out); rintro e w18 ⟨rfl, hb⟩; refine ⟨_, rfl, ?_⟩; have n0_ := Aside0.mk (below_step (by repeat (first | (with_reducible first | exact HB.out | apply below_alloc | apply pw_below_drewN | apply below_drew1) | exact HB.out)) hb); clear HB; have HB := n0_; clear n0_; (try clear hb); (try clear hb2); (try clear hk); (try clear hi)))
    go_ret2
    exact ⟨by first | rfl | (simp [errW_none, errW_some] <;> rfl) | (simp [*, errW_none, errW_some] <;> rfl), by repeat (first | (with_reducible first | exact HB.out | apply below_alloc | apply pw_below_drewN | apply below_drew1) | exact HB.out)⟩

end Go.Proofs.YtnalcjgefbelnaaDoor.Q
end
section
namespace Go.Proofs.YtnalcjgefbelnaaDoor.Q
open Go.RowKit Go.Proofs.YtnalcjgefbelnaaDoorW.PrintWords Go.Proofs.YtnalcjgefbelnaaDoorW.PrintLast Go.Proofs.YtnalcjgefbelnaaDoorW.PrintMore
set_option linter.unusedVariables false
set_option linter.unusedSimpArgs false

attribute [local go_sem] max2_int min2_int max_two min_two max_three min_three max_four min_four
/-! ### tinderref08_Children: function 34 -/
def tinderref08_Children.l0 : Nat → List (S44) → Int → List Int → Int → Option (List Int)
  | 0, _, _, _, _ => none
  | k + 1, x0, x1, x5, x6 => if x6 < (x0.length : Int) then (if x1 ≥ 0 then (if 0 ≤ x6 then (if ((rd_T44 x0 x6).f2) = x1 then (if x5.length < 17592186044416 then (tinderref08_Children.l0 k x0 x1 (x5 ++ [x6]) (wrap64 (x6 + 1))) else (none)) else (tinderref08_Children.l0 k x0 x1 x5 (wrap64 (x6 + 1)))) else (none)) else (tinderref08_Children.l0 k x0 x1 x5 (wrap64 (x6 + 1)))) else (some x5)
def tinderref08_Children.f (k : Nat) (l0 : List (S44)) (a1 : Int) : Option (List Int) := tinderref08_Children.l0 k l0 a1 ([] : List Int) 0
set_option maxHeartbeats 8000000 in
set_option maxRecDepth 100000 in
theorem tinderref08_Children.calls (k : Nat) (A0 : Option Addr) (c0 : Nat) (l0 : List (S44)) (a1 : Int) (r : List Int) (w : World) (hr0 : Kd.C k44 w A0 l0.length l0) (hc0 : l0.length ≤ c0) (h : tinderref08_Children.f k l0 a1 = some r) :
    Calls Tryd.prog 34 #[.slice A0 l0.length c0, .int .i64 a1] w fun e w' => ∃ v0_ : Value, e = .returned (v0_) ∧ Kd.R (Kd.int .i64) 3 w' w.heap.size (fun _ => True) v0_ r ∧ Below w.heap.size w w' := by
  have HR0 := Aside0.mk hr0
  have HC0 := Aside0.mk hc0
  clear hr0 hc0
  have HB := Aside0.mk (Below.refl w.heap.size w)
  have H : (tinderref08_Children.l0 k l0 a1 ([] : List Int) 0) = some r := h
  clear h
  have H' := Aside0.mk H
  clear H
  go_enter Tryd.func34, Tryd.ntmps34
  go_wp2
  go_loopg [5, 6] k (fun kq v5 v6 w' => ∃ (x5_1 : List Int) (x6_1 : Int), v6 = .int .i64 x6_1 ∧ Aside0 (tinderref08_Children.l0 kq l0 a1 x5_1 x6_1 = some r) ∧ Aside0 (kq ≤ k) ∧ Aside0 (Kd.R (Kd.int .i64) 3 w' w.heap.size (fun _ => True) v5 x5_1) ∧ Aside0 (Below w.heap.size w w'))
  case atStart => exact ⟨(([] : List Int)), (0), (by first | rfl | (simp; done) | (simp [*]; done)), H', ⟨Nat.le_refl _⟩, ⟨by first | exact Kd.R_nil _ _ _ _ _ | exact Kd.N_nil _ _ _ _ _ | exact Kd.V_nil _ _ _ _ _ | exact Kd.Q_nil _ _ _ _ _ | exact Kd.S_nil _ _ _ _ _⟩, ⟨by repeat (first | (with_reducible first | exact HB.out | apply below_alloc | apply pw_below_drewN | apply below_drew1) | exact HB.out)⟩⟩
  case round =>
    clear H'
    try clear p2
    obtain ⟨x5_1, x6_1, rfl, HA, HK1, HO_5, HB⟩ := hrel
    cases gk with
    | zero => exact absurd HA.out (by simp [tinderref08_Children.l0])
    | succ k1 =>
      have H := HA.out
      clear HA
      simp only [tinderref08_Children.l0] at H
      by_cases c3 : x6_1 < (l0.length : Int)
      · rw [if_pos c3] at H
        have c3b0 : decide (x6_1 < (l0.length : Int)) = true := decide_eq_true c3
        clear c3
        by_cases c4 : a1 ≥ 0
        · rw [if_pos c4] at H
          have c4b0 : decide (0 ≤ a1) = true := decide_eq_true c4
          clear c4
          by_cases c5 : 0 ≤ x6_1
          · rw [if_pos c5] at H
            have c5b0 : decide (0 ≤ x6_1) = true := decide_eq_true c5
            clear c5
            by_cases c6 : ((rd_T44 l0 x6_1).f2) = a1
            · rw [if_pos c6] at H
              have c6b0 : (((rd_T44 l0 x6_1).f2) == a1) = true := beq_iff_eq.mpr c6
              have c6b1 : (((rd_T44 l0 x6_1).f2) != a1) = false := bne_eq_false_iff_eq.mpr c6
              clear c6
              by_cases c7 : x5_1.length < 17592186044416
              · rw [if_pos c7] at H
                have LMc7 := Aside0.mk c7
                clear c7
                obtain ⟨y35002, hy35002⟩ : ∃ y_ : List Int, y_ = (x5_1 ++ [x6_1]) := ⟨_, rfl⟩
                replace H : (tinderref08_Children.l0 k1 l0 a1 y35002 (wrap64 (x6_1 + 1))) = some r := by first | (rw [hy35002]; with_reducible exact H) | (have H2_ := (Option.bind_some _ _).symm.trans H; rw [hy35002]; with_reducible exact H2_) | (have H2_ := (Option.bind_some _ _).symm.trans H; with_reducible exact H2_) | with_reducible exact H | (rw [hy35002]; exact H) | exact H
                have Ny35002 := Aside0.mk hy35002
                clear hy35002
                have H' := Aside0.mk H
                clear H
                have p35001 : 0 ≤ (x6_1 : Int) := of_decide_eq_true (by first | (with_reducible assumption) | assumption)
                have q35001 : x6_1 < (l0.length : Int) := of_decide_eq_true (by first | (with_reducible assumption) | assumption)
                obtain ⟨ad35001, A35001_1, c35001_1, A35001_3, c35001_3, A35001_4, c35001_4, e35001, hx35001_0, hx35001_1, hx35001_2, hx35001_3, hx35001_4, hl35001_1, hi35001_1, hl35001_3, hi35001_3, hl35001_4, hi35001_4⟩ := at_T44 HR0.out x6_1 p35001 q35001
                cases e35001
                replace hx35001_0 := (HB.out.cell (World.block_lt_of_cell? w _ hx35001_0)).trans hx35001_0
                replace hx35001_1 := (HB.out.cell (World.block_lt_of_cell? w _ hx35001_1)).trans hx35001_1
                replace hx35001_2 := (HB.out.cell (World.block_lt_of_cell? w _ hx35001_2)).trans hx35001_2
                replace hx35001_3 := (HB.out.cell (World.block_lt_of_cell? w _ hx35001_3)).trans hx35001_3
                replace hx35001_4 := (HB.out.cell (World.block_lt_of_cell? w _ hx35001_4)).trans hx35001_4
                have HR35001_1 := Aside0.mk hi35001_1
                have HC35001_1 := Aside0.mk hl35001_1
                clear hi35001_1 hl35001_1
                have HR35001_3 := Aside0.mk hi35001_3
                have HC35001_3 := Aside0.mk hl35001_3
                clear hi35001_3 hl35001_3
                have HR35001_4 := Aside0.mk hi35001_4
                have HC35001_4 := Aside0.mk hl35001_4
                clear hi35001_4 hl35001_4
                replace p35001 := eq_true p35001
                replace q35001 := eq_true q35001
                go_wp2_with (first | ((with_reducible refine gate_builtin (b := .append) (xs := #[.tmp 24, .tmp 26]) rfl ?_); at_builtin; refine Kd.R_append (Kd.int .i64) (w0 := w) w.heap.size rfl (.tmp 24) (.tmp 26) 58 3 (.int .i64 0) 8 rfl Tryd.underlying58 info3 rfl (by decide) (by omega) u5 x5_1 x6_1 [.int .i64 x6_1] (fun _ => True) (fun _ => False) rfl rfl ?aP (fun _ hk => hk.elim) ?aF ?aO ?aB ?aS ?aL ?_; (case aP => exact rfl); (case aB => exact (by repeat (first | (with_reducible first | exact HB.out | apply below_alloc | apply pw_below_drewN | apply below_drew1) | exact HB.out))); (case aF => exact (fun _ _ => trivial)); (case aO => exact (by (with_reducible repeat (first | apply Kd.R_alloc | apply Kd.R_drewN | apply Kd.R_drew)); exact HO_5.out)); (case aS => exact (below_size (by repeat (first | (with_reducible first | exact HB.out | apply below_alloc | apply pw_below_drewN | apply below_drew1) | exact HB.out)))); (case aL => have := LMc7.out; omega); intro v35003 w8 ho hb hg hat; rw [← Ny35002.out] at ho; have n0_ := Aside0.mk (hb); have n1_ := Aside0.mk (ho); clear HB; clear HO_5; have HB := n0_; have HO35004 := n1_; clear n0_ n1_; clear ho hb hg hat))
                go_roundg k1
                case measure => have := HK1.out; omega
                case rel => exact ⟨(y35002), (wrap64 (x6_1 + 1)), (by first | rfl | (simp; done) | (simp [*]; done)), H', ⟨by have := HK1.out; omega⟩, ⟨by (with_reducible repeat (first | apply Kd.R_alloc | apply Kd.R_drewN | apply Kd.R_drew)); exact HO35004.out⟩, ⟨by repeat (first | (with_reducible first | exact HB.out | apply below_alloc | apply pw_below_drewN | apply below_drew1) | exact HB.out)⟩⟩
              · rw [if_neg c7] at H
                exact absurd H (by simp)
            · rw [if_neg c6] at H
              have c6b0 : (((rd_T44 l0 x6_1).f2) == a1) = false := beq_eq_false_iff_ne.mpr c6
              have c6b1 : (((rd_T44 l0 x6_1).f2) != a1) = true := bne_iff_ne.mpr c6
              have H' := Aside0.mk H
              clear H
              have p35001 : 0 ≤ (x6_1 : Int) := of_decide_eq_true (by first | (with_reducible assumption) | assumption)
              have q35001 : x6_1 < (l0.length : Int) := of_decide_eq_true (by first | (with_reducible assumption) | assumption)
              obtain ⟨ad35001, A35001_1, c35001_1, A35001_3, c35001_3, A35001_4, c35001_4, e35001, hx35001_0, hx35001_1, hx35001_2, hx35001_3, hx35001_4, hl35001_1, hi35001_1, hl35001_3, hi35001_3, hl35001_4, hi35001_4⟩ := at_T44 HR0.out x6_1 p35001 q35001
              cases e35001
              replace hx35001_0 := (HB.out.cell (World.block_lt_of_cell? w _ hx35001_0)).trans hx35001_0
              replace hx35001_1 := (HB.out.cell (World.block_lt_of_cell? w _ hx35001_1)).trans hx35001_1
              replace hx35001_2 := (HB.out.cell (World.block_lt_of_cell? w _ hx35001_2)).trans hx35001_2
              replace hx35001_3 := (HB.out.cell (World.block_lt_of_cell? w _ hx35001_3)).trans hx35001_3
              replace hx35001_4 := (HB.out.cell (World.block_lt_of_cell? w _ hx35001_4)).trans hx35001_4
              have HR35001_1 := Aside0.mk hi35001_1
              have HC35001_1 := Aside0.mk hl35001_1
              clear hi35001_1 hl35001_1
              have HR35001_3 := Aside0.mk hi35001_3
              have HC35001_3 := Aside0.mk hl35001_3
              clear hi35001_3 hl35001_3
              have HR35001_4 := Aside0.mk hi35001_4
              have HC35001_4 := Aside0.mk hl35001_4
              clear hi35001_4 hl35001_4
              replace p35001 := eq_true p35001
              replace q35001 := eq_true q35001
              go_wp2
              go_roundg k1
              case measure => have := HK1.out; omega
              case rel => exact ⟨(x5_1), (wrap64 (x6_1 + 1)), (by first | rfl | (simp; done) | (simp [*]; done)), H', ⟨by have := HK1.out; omega⟩, ⟨by (with_reducible repeat (first | apply Kd.R_alloc | apply Kd.R_drewN | apply Kd.R_drew)); exact HO_5.out⟩, ⟨by repeat (first | (with_reducible first | exact HB.out | apply below_alloc | apply pw_below_drewN | apply below_drew1) | exact HB.out)⟩⟩
          · rw [if_neg c5] at H
            exact absurd H (by simp)
        · rw [if_neg c4] at H
          have c4b0 : decide (0 ≤ a1) = false := decide_eq_false c4
          clear c4
          have H' := Aside0.mk H
          clear H
          go_wp2
          go_roundg k1
          case measure => have := HK1.out; omega
          case rel => exact ⟨(x5_1), (wrap64 (x6_1 + 1)), (by first | rfl | (simp; done) | (simp [*]; done)), H', ⟨by have := HK1.out; omega⟩, ⟨by (with_reducible repeat (first | apply Kd.R_alloc | apply Kd.R_drewN | apply Kd.R_drew)); exact HO_5.out⟩, ⟨by repeat (first | (with_reducible first | exact HB.out | apply below_alloc | apply pw_below_drewN | apply below_drew1) | exact HB.out)⟩⟩
      · rw [if_neg c3] at H
        have c3b0 : decide (x6_1 < (l0.length : Int)) = false := decide_eq_false c3
        clear c3
        obtain rfl := Option.some.inj H
        go_wp2
        go_ret
        exact ⟨_, by first | rfl | (simp [errW_none, errW_some] <;> rfl) | (simp [*, errW_none, errW_some] <;> rfl), by (with_reducible repeat (first | apply Kd.R_alloc | apply Kd.R_drewN | apply Kd.R_drew)); exact HO_5.out, by repeat (first | (with_reducible first | exact HB.out | apply below_alloc | apply pw_below_drewN | apply below_drew1) | exact HB.out)⟩

end Go.Proofs.YtnalcjgefbelnaaDoor.Q
end
section
namespace Go.Proofs.YtnalcjgefbelnaaDoor.Q
open Go.RowKit Go.Proofs.YtnalcjgefbelnaaDoorW.PrintWords Go.Proofs.YtnalcjgefbelnaaDoorW.PrintLast Go.Proofs.YtnalcjgefbelnaaDoorW.PrintMore
set_option linter.unusedVariables false
set_option linter.unusedSimpArgs false

attribute [local go_sem] max2_int min2_int max_two min_two max_three min_three max_four min_four
/-! ### tinderlaw08_ints: function 32 -/
def tinderlaw08_ints.l0 : Nat → List Int → List Int → Int → Option (Bool)
  | 0, _, _, _ => none
  | k + 1, x0, x1, x5 => if x5 < (x0.length : Int) then (if 0 ≤ x5 then (if x5 < (x1.length : Int) then (if (rd x0 x5) = (rd x1 x5) then (tinderlaw08_ints.l0 k x0 x1 (wrap64 (x5 + 1))) else (some false)) else (none)) else (none)) else (some true)
def tinderlaw08_ints.f (k : Nat) (l0 : List Int) (l1 : List Int) : Option (Bool) := if (l0.length : Int) = (l1.length : Int) then (tinderlaw08_ints.l0 k l0 l1 0) else (some false)
set_option maxHeartbeats 8000000 in
set_option maxRecDepth 100000 in
theorem tinderlaw08_ints.calls (k : Nat) (A0 : Option Addr) (c0 : Nat) (l0 : List Int) (A1 : Option Addr) (c1 : Nat) (l1 : List Int) (r : Bool) (w : World) (hr0 : Kd.C (Kd.int .i64) w A0 l0.length l0) (hc0 : l0.length ≤ c0) (hr1 : Kd.C (Kd.int .i64) w A1 l1.length l1) (hc1 : l1.length ≤ c1) (h : tinderlaw08_ints.f k l0 l1 = some r) :
    Calls Tryd.prog 32 #[.slice A0 l0.length c0, .slice A1 l1.length c1] w fun e w' => e = .returned (.bool r) ∧ Drawn0 w w' := by
  have HR0 := Aside0.mk hr0
  have HC0 := Aside0.mk hc0
  clear hr0 hc0
  have HR1 := Aside0.mk hr1
  have HC1 := Aside0.mk hc1
  clear hr1 hc1
  have H : (if (l0.length : Int) = (l1.length : Int) then (tinderlaw08_ints.l0 k l0 l1 0) else (some false)) = some r := h
  clear h
  by_cases c3 : (l0.length : Int) = (l1.length : Int)
  · rw [if_pos c3] at H
    have c3b0 : ((l0.length : Int) == (l1.length : Int)) = true := beq_iff_eq.mpr c3
    have c3b1 : ((l0.length : Int) != (l1.length : Int)) = false := bne_eq_false_iff_eq.mpr c3
    have c3b2 : (l0.length == l1.length) = true := by first | simpa using c3 | (simp at c3 ⊢; omega)
    clear c3
    have H' := Aside0.mk H
    clear H
    go_enter Tryd.func32, Tryd.ntmps32
    go_wp2
    repeat (go_quiet (fail); try go_wp2)
    go_loopg [5] k (fun kq v5 w' => ∃ (x5_1 : Int), v5 = .int .i64 x5_1 ∧ Aside0 (tinderlaw08_ints.l0 kq l0 l1 x5_1 = some r) ∧ Aside0 (kq ≤ k) ∧ Drawn0 w w')
    case atStart => exact ⟨(0), (by first | rfl | (simp; done) | (simp [*]; done)), H', ⟨Nat.le_refl _⟩, by repeat (first | exact Drawn0.refl _ | apply Drawn0.step)⟩
    case round =>
      clear H'
      try clear c1
      try clear p2
      try clear c3
      try clear c3b0
      try clear c3b1
      try clear c3b2
      obtain ⟨x5_1, rfl, HA, HK1, ⟨m1, rfl⟩⟩ := hrel
      cases gk with
      | zero => exact absurd HA.out (by simp [tinderlaw08_ints.l0])
      | succ k1 =>
        have H := HA.out
        clear HA
        simp only [tinderlaw08_ints.l0] at H
        by_cases c4 : x5_1 < (l0.length : Int)
        · rw [if_pos c4] at H
          have c4b0 : decide (x5_1 < (l0.length : Int)) = true := decide_eq_true c4
          clear c4
          by_cases c5 : 0 ≤ x5_1
          · rw [if_pos c5] at H
            have c5b0 : decide (0 ≤ x5_1) = true := decide_eq_true c5
            clear c5
            by_cases c6 : x5_1 < (l1.length : Int)
            · rw [if_pos c6] at H
              have c6b0 : decide (x5_1 < (l1.length : Int)) = true := decide_eq_true c6
              clear c6
              by_cases c7 : (rd l0 x5_1) = (rd l1 x5_1)
              · rw [if_pos c7] at H
                have c7b0 : ((rd l0 x5_1) == (rd l1 x5_1)) = true := beq_iff_eq.mpr c7
                have c7b1 : ((rd l0 x5_1) != (rd l1 x5_1)) = false := bne_eq_false_iff_eq.mpr c7
                clear c7
                have H' := Aside0.mk H
                clear H
                have p33001 : 0 ≤ (x5_1 : Int) := of_decide_eq_true (by first | (with_reducible assumption) | assumption)
                have q33001 : x5_1 < (l0.length : Int) := of_decide_eq_true (by first | (with_reducible assumption) | assumption)
                obtain ⟨ad33001, e33001, hx33001_0⟩ := Kd.at_int HR0.out x5_1 p33001 q33001
                cases e33001
                replace p33001 := eq_true p33001
                replace q33001 := eq_true q33001
                have p33002 : 0 ≤ (x5_1 : Int) := of_decide_eq_true (by first | (with_reducible assumption) | assumption)
                have q33002 : x5_1 < (l1.length : Int) := of_decide_eq_true (by first | (with_reducible assumption) | assumption)
                obtain ⟨ad33002, e33002, hx33002_0⟩ := Kd.at_int HR1.out x5_1 p33002 q33002
                cases e33002
                replace p33002 := eq_true p33002
                replace q33002 := eq_true q33002
                go_wp2
                repeat (go_quiet (fail); try go_wp2)
                go_roundg k1
                case measure => have := HK1.out; omega
                case rel => exact ⟨(wrap64 (x5_1 + 1)), (by first | rfl | (simp; done) | (simp [*]; done)), H', ⟨by have := HK1.out; omega⟩, by repeat (first | exact Drawn0.refl _ | apply Drawn0.step)⟩
              · rw [if_neg c7] at H
                have c7b0 : ((rd l0 x5_1) == (rd l1 x5_1)) = false := beq_eq_false_iff_ne.mpr c7
                have c7b1 : ((rd l0 x5_1) != (rd l1 x5_1)) = true := bne_iff_ne.mpr c7
                obtain rfl := Option.some.inj H
                have p33001 : 0 ≤ (x5_1 : Int) := of_decide_eq_true (by first | (with_reducible assumption) | assumption)
                have q33001 : x5_1 < (l0.length : Int) := of_decide_eq_true (by first | (with_reducible assumption) | assumption)
                obtain ⟨ad33001, e33001, hx33001_0⟩ := Kd.at_int HR0.out x5_1 p33001 q33001
                cases e33001
                replace p33001 := eq_true p33001
                replace q33001 := eq_true q33001
                have p33002 : 0 ≤ (x5_1 : Int) := of_decide_eq_true (by first | (with_reducible assumption) | assumption)
                have q33002 : x5_1 < (l1.length : Int) := of_decide_eq_true (by first | (with_reducible assumption) | assumption)
                obtain ⟨ad33002, e33002, hx33002_0⟩ := Kd.at_int HR1.out x5_1 p33002 q33002
                cases e33002
                replace p33002 := eq_true p33002
                replace q33002 := eq_true q33002
                go_wp2
                repeat (go_quiet (fail); try go_wp2)
                go_ret
                exact ⟨by first | rfl | (simp; done) | (simp [*]; done), by repeat (first | exact Drawn0.refl _ | apply Drawn0.step)⟩
            · rw [if_neg c6] at H
              exact absurd H (by simp)
          · rw [if_neg c5] at H
            exact absurd H (by simp)
        · rw [if_neg c4] at H
          have c4b0 : decide (x5_1 < (l0.length : Int)) = false := decide_eq_false c4
          clear c4
          obtain rfl := Option.some.inj H
          go_wp2
          repeat (go_quiet (fail); try go_wp2)
          go_ret
          exact ⟨by first | rfl | (simp; done) | (simp [*]; done), by repeat (first | exact Drawn0.refl _ | apply Drawn0.step)⟩
  · rw [if_neg c3] at H
    have c3b0 : ((l0.length : Int) == (l1.length : Int)) = false := beq_eq_false_iff_ne.mpr c3
    have c3b1 : ((l0.length : Int) != (l1.length : Int)) = true := bne_iff_ne.mpr c3
    have c3b2 : (l0.length == l1.length) = false := by first | simpa using c3 | (simp at c3 ⊢; omega)
    obtain rfl := Option.some.inj H
    go_enter Tryd.func32, Tryd.ntmps32
    go_wp2
    repeat (go_quiet (fail); try go_wp2)
    go_ret
    exact ⟨by first | rfl | (simp; done) | (simp [*]; done), by repeat (first | exact Drawn0.refl _ | apply Drawn0.step)⟩

end Go.Proofs.YtnalcjgefbelnaaDoor.Q
end
