/- Contracts of Go functions and plain facts, of several texts, one behind the other; no condition. -/
import Derived.Test.YtnalcjgefbelnaaDoorMTreeBack2
import Derived.Test.YtnalcjgefbelnaaDoorMTreeBack3
import Derived.Test.YtnalcjgefbelnaaDoorMTreeBack4
import Derived.Lib.IndexLaws
import Derived.Laws.Cover1
section
namespace Go.Proofs.YtnalcjgefbelnaaDoor.Q
open Go.RowKit Go.Proofs.YtnalcjgefbelnaaDoorW.PrintWords Go.Proofs.YtnalcjgefbelnaaDoorW.PrintLast Go.Proofs.YtnalcjgefbelnaaDoorW.PrintMore
set_option linter.unusedVariables false
set_option linter.unusedSimpArgs false

attribute [local go_sem] max2_int min2_int max_two min_two max_three min_three max_four min_four
/-! ### tinderlaw08_alive: function 11 -/
def tinderlaw08_alive.f  : Option (Bool) := (tree_New.f).bind fun t12001 => ((tree_Add.f t12001 0 (⟨#[112, 99, 105]⟩ : ByteArray) (([31] : List Int))).bind fun bt12007 => ((tree_Add.f bt12007.1 bt12007.2.1 (⟨#[100, 105, 115, 107]⟩ : ByteArray) ([] : List Int)).bind fun bt12012 => ((tree_Path.f bt12012.1 bt12012.2.1).bind fun bt12017 => (if bt12007.2.2 = 0 then (if bt12012.2.2 = 0 then (if bt12007.2.1 = 1 then (if bt12012.2.1 = 2 then (if bt12017.1.toList = ([47, 112, 99, 105, 64, 49, 102, 47, 100, 105, 115, 107] : List UInt8) then (some (bt12017.2 == 0)) else (some false)) else (some false)) else (some false)) else (some false)) else (some false)))))
set_option maxHeartbeats 8000000 in
set_option maxRecDepth 100000 in
theorem tinderlaw08_alive.calls  (r : Bool) (w : World) (ht : QB.Tabs w) (h : tinderlaw08_alive.f  = some r) :
    Calls Tryd.prog 11 #[] w fun e w' => e = .returned (.bool r) ∧ Below w.heap.size w w' := by
  have HB := Aside0.mk (Below.refl w.heap.size w)
  have H : ((tree_New.f).bind fun t12001 => ((tree_Add.f t12001 0 (⟨#[112, 99, 105]⟩ : ByteArray) (([31] : List Int))).bind fun bt12007 => ((tree_Add.f bt12007.1 bt12007.2.1 (⟨#[100, 105, 115, 107]⟩ : ByteArray) ([] : List Int)).bind fun bt12012 => ((tree_Path.f bt12012.1 bt12012.2.1).bind fun bt12017 => (if bt12007.2.2 = 0 then (if bt12012.2.2 = 0 then (if bt12007.2.1 = 1 then (if bt12012.2.1 = 2 then (if bt12017.1.toList = ([47, 112, 99, 105, 64, 49, 102, 47, 100, 105, 115, 107] : List UInt8) then (some (bt12017.2 == 0)) else (some false)) else (some false)) else (some false)) else (some false)) else (some false)))))) = some r := h
  clear h
  replace H := Option.bind_eq_some_iff.mp H
  obtain ⟨t12001, A10, H⟩ := H
  replace H : ((tree_Add.f t12001 0 (⟨#[112, 99, 105]⟩ : ByteArray) (([31] : List Int))).bind fun bt12007 => ((tree_Add.f bt12007.1 bt12007.2.1 (⟨#[100, 105, 115, 107]⟩ : ByteArray) ([] : List Int)).bind fun bt12012 => ((tree_Path.f bt12012.1 bt12012.2.1).bind fun bt12017 => (if bt12007.2.2 = 0 then (if bt12012.2.2 = 0 then (if bt12007.2.1 = 1 then (if bt12012.2.1 = 2 then (if bt12017.1.toList = ([47, 112, 99, 105, 64, 49, 102, 47, 100, 105, 115, 107] : List UInt8) then (some (bt12017.2 == 0)) else (some false)) else (some false)) else (some false)) else (some false)) else (some false))))) = some r := H
  have A1 := Aside0.mk A10
  clear A10
  obtain ⟨y12004, hy12004⟩ : ∃ y_ : List Int, y_ = (([31] : List Int)) := ⟨_, rfl⟩
  replace H : ((tree_Add.f t12001 0 (⟨#[112, 99, 105]⟩ : ByteArray) y12004).bind fun bt12007 => ((tree_Add.f bt12007.1 bt12007.2.1 (⟨#[100, 105, 115, 107]⟩ : ByteArray) ([] : List Int)).bind fun bt12012 => ((tree_Path.f bt12012.1 bt12012.2.1).bind fun bt12017 => (if bt12007.2.2 = 0 then (if bt12012.2.2 = 0 then (if bt12007.2.1 = 1 then (if bt12012.2.1 = 2 then (if bt12017.1.toList = ([47, 112, 99, 105, 64, 49, 102, 47, 100, 105, 115, 107] : List UInt8) then (some (bt12017.2 == 0)) else (some false)) else (some false)) else (some false)) else (some false)) else (some false))))) = some r := by first | (rw [hy12004]; with_reducible exact H) | (have H2_ := (Option.bind_some _ _).symm.trans H; rw [hy12004]; with_reducible exact H2_) | (have H2_ := (Option.bind_some _ _).symm.trans H; with_reducible exact H2_) | with_reducible exact H | (rw [hy12004]; exact H) | exact H
  have Ny12004 := Aside0.mk hy12004
  clear hy12004
  replace H := Option.bind_eq_some_iff.mp H
  obtain ⟨⟨t12007, t12008, t12009⟩, A20, H⟩ := H
  replace H : ((tree_Add.f t12007 t12008 (⟨#[100, 105, 115, 107]⟩ : ByteArray) ([] : List Int)).bind fun bt12012 => ((tree_Path.f bt12012.1 bt12012.2.1).bind fun bt12017 => (if t12009 = 0 then (if bt12012.2.2 = 0 then (if t12008 = 1 then (if bt12012.2.1 = 2 then (if bt12017.1.toList = ([47, 112, 99, 105, 64, 49, 102, 47, 100, 105, 115, 107] : List UInt8) then (some (bt12017.2 == 0)) else (some false)) else (some false)) else (some false)) else (some false)) else (some false)))) = some r := H
  have A2 := Aside0.mk A20
  clear A20
  replace H := Option.bind_eq_some_iff.mp H
  obtain ⟨⟨t12012, t12013, t12014⟩, A30, H⟩ := H
  replace H : ((tree_Path.f t12012 t12013).bind fun bt12017 => (if t12009 = 0 then (if t12014 = 0 then (if t12008 = 1 then (if t12013 = 2 then (if bt12017.1.toList = ([47, 112, 99, 105, 64, 49, 102, 47, 100, 105, 115, 107] : List UInt8) then (some (bt12017.2 == 0)) else (some false)) else (some false)) else (some false)) else (some false)) else (some false))) = some r := H
  have A3 := Aside0.mk A30
  clear A30
  replace H := Option.bind_eq_some_iff.mp H
  obtain ⟨⟨t12017, t12018⟩, A40, H⟩ := H
  replace H : (if t12009 = 0 then (if t12014 = 0 then (if t12008 = 1 then (if t12013 = 2 then (if t12017.toList = ([47, 112, 99, 105, 64, 49, 102, 47, 100, 105, 115, 107] : List UInt8) then (some (t12018 == 0)) else (some false)) else (some false)) else (some false)) else (some false)) else (some false)) = some r := H
  have A4 := Aside0.mk A40
  clear A40
  by_cases c5 : t12009 = 0
  · rw [if_pos c5] at H
    have c5b0 : (t12009 == 0) = true := beq_iff_eq.mpr c5
    have c5b1 : (t12009 != 0) = false := bne_eq_false_iff_eq.mpr c5
    clear c5
    by_cases c6 : t12014 = 0
    · rw [if_pos c6] at H
      have c6b0 : (t12014 == 0) = true := beq_iff_eq.mpr c6
      have c6b1 : (t12014 != 0) = false := bne_eq_false_iff_eq.mpr c6
      clear c6
      by_cases c7 : t12008 = 1
      · rw [if_pos c7] at H
        have c7b0 : (t12008 == 1) = true := beq_iff_eq.mpr c7
        have c7b1 : (t12008 != 1) = false := bne_eq_false_iff_eq.mpr c7
        clear c7
        by_cases c8 : t12013 = 2
        · rw [if_pos c8] at H
          have c8b0 : (t12013 == 2) = true := beq_iff_eq.mpr c8
          have c8b1 : (t12013 != 2) = false := bne_eq_false_iff_eq.mpr c8
          clear c8
          by_cases c9 : t12017.toList = ([47, 112, 99, 105, 64, 49, 102, 47, 100, 105, 115, 107] : List UInt8)
          · rw [if_pos c9] at H
            have c9b0 : (t12017.toList == ([47, 112, 99, 105, 64, 49, 102, 47, 100, 105, 115, 107] : List UInt8)) = true := beq_iff_eq.mpr c9
            have c9b1 : (t12017.toList != ([47, 112, 99, 105, 64, 49, 102, 47, 100, 105, 115, 107] : List UInt8)) = false := bne_eq_false_iff_eq.mpr c9
            clear c9
            obtain rfl := Option.some.inj H
            go_enter Tryd.func11, Tryd.ntmps11
            go_wp2_with (first | ((with_reducible refine gate_callee (f := 16) rfl ?_); refine goesL_ (some 9) rfl rfl Tryd.func16 (by kernel_rfl) rfl #[] rfl (by (try simp only [List.map_toArray, List.map_cons, List.map_nil]); first | done | rfl | (simp only [List.length_drop, List.length_take]; rfl)) ?_; (with_reducible refine (tree_New.calls  t12001 _ A1.out).mono ?_); rintro e w10 ⟨v12002, rfl, ho0, hb⟩; refine ⟨_, rfl, ?_⟩; have n0_ := Aside0.mk (Kd.R_lower ho0 (below_size (by repeat (first | (with_reducible first | exact HB.out | apply below_alloc | apply pw_below_drewN | apply below_drew1) | exact HB.out)))); have n1_ := Aside0.mk (below_step (by repeat (first | (with_reducible first | exact HB.out | apply below_alloc | apply pw_below_drewN | apply below_drew1) | exact HB.out)) hb); clear HB; have HO12003 := n0_; have HB := n1_; clear n0_ n1_; (try clear hb); (try clear hb2); (try clear hk); (try clear hi); (try clear ho0)) | ((with_reducible refine gate_dst (N := 10) rfl ?_); refine Kd.R_lit (Kd.int .u32) _ 66 ?hg (N := 10) ?hd (xs := ([31] : List Int)) (inner := [.int .u32 31]) (ok := fun _ => True) (okp := fun _ => True) ?hr ?hp (fun _ hk => hk) trivial (Below.refl _ _) (Nat.le_refl _) (by simp) ?_; (case hd => rfl); (case hg => rfl); (case hr => first | (go_simp; done) | (go_simp; rfl)); (case hp => exact (Reps.one (show Kd.M (Kd.int .u32) _ _ _ 31 [.int .u32 31] from rfl) (Reps.none _ _))); intro v12005 w11 ho12 hb hg_ hnew_; clear hg_ hnew_; (first | rw [← Ny12004.out] at ho12 | (simp only [Int.reduceToNat] at ho12; rw [← Ny12004.out] at ho12)); have n0_ := Aside0.mk (Kd.R_elder' (by (with_reducible repeat (first | apply Kd.R_alloc | apply Kd.R_drewN | apply Kd.R_drew)); exact HO12003.out) (Kd.R_base ho12) hb); have n1_ := Aside0.mk (Kd.R_lower ho12 (below_size (by repeat (first | (with_reducible first | exact HB.out | apply below_alloc | apply pw_below_drewN | apply below_drew1) | exact HB.out)))); have n2_ := Aside0.mk (below_step (by repeat (first | (with_reducible first | exact HB.out | apply below_alloc | apply pw_below_drewN | apply below_drew1) | exact HB.out)) hb); clear HO12003; clear HB; have HO12003 := n0_; have HO12006 := n1_; have HB := n2_; clear n0_ n1_ n2_; clear hb ho12; obtain ⟨Ao13, co13, eo13⟩ := Kd.R_slice HO12003.out; subst eo13; obtain ⟨Ao14, co14, eo14⟩ := Kd.R_slice HO12006.out; subst eo14) | ((with_reducible refine gate_callee (f := 19) rfl ?_); refine goesL_ (some 11) rfl rfl Tryd.func19 (by kernel_rfl) rfl #[.slice Ao13 t12001.length co13, .int .i64 0, .string (⟨#[112, 99, 105]⟩ : ByteArray), .slice Ao14 y12004.length co14] rfl (by (try simp only [List.map_toArray, List.map_cons, List.map_nil]); first | done | rfl | (simp only [List.length_drop, List.length_take]; rfl)) ?_; (with_reducible refine (tree_Add.calls _ _ t12001 0 (⟨#[112, 99, 105]⟩ : ByteArray) _ _ y12004 t12007 t12008 t12009 _ ?side1 ?side2 ?side3 ?side4 A2.out).mono ?_); (case side1 => repeat (first | exact (Kd.R_reads' HO12003.out).2.2 | (with_reducible refine Kd.C_alloc ?_ _) | (with_reducible refine Kd.C_drewN ?_ _) | (with_reducible refine Kd.C_drew ?_))); (case side2 => exact (Kd.R_reads' HO12003.out).2.1); (case side3 => repeat (first | exact (Kd.R_reads' HO12006.out).2.2 | (with_reducible refine Kd.C_alloc ?_ _) | (with_reducible refine Kd.C_drewN ?_ _) | (with_reducible refine Kd.C_drew ?_))); (case side4 => exact (Kd.R_reads' HO12006.out).2.1); rintro e w15 ⟨v12010, rfl, ho0, hb⟩; refine ⟨_, rfl, ?_⟩; have n0_ := Aside0.mk (Kd.R_elder' (by (with_reducible repeat (first | apply Kd.R_alloc | apply Kd.R_drewN | apply Kd.R_drew)); exact HO12003.out) (Kd.R_base ho0) hb); have n1_ := Aside0.mk (Kd.R_below (by (with_reducible repeat (first | apply Kd.R_alloc | apply Kd.R_drewN | apply Kd.R_drew)); exact HO12006.out) hb); have n2_ := Aside0.mk (Kd.R_lower (Kd.R_new' (Kd.R_new' ho0 (Kd.R_lt (by (with_reducible repeat (first | apply Kd.R_alloc | apply Kd.R_drewN | apply Kd.R_drew)); exact HO12003.out))) (Kd.R_lt (by (with_reducible repeat (first | apply Kd.R_alloc | apply Kd.R_drewN | apply Kd.R_drew)); exact HO12006.out))) (below_size (by repeat (first | (with_reducible first | exact HB.out | apply below_alloc | apply pw_below_drewN | apply below_drew1) | exact HB.out)))); have n3_ := Aside0.mk (below_step (by repeat (first | (with_reducible first | exact HB.out | apply below_alloc | apply pw_below_drewN | apply below_drew1) | exact HB.out)) hb); clear HO12003; clear HO12006; clear HB; have HO12003 := n0_; have HO12006 := n1_; have HO12011 := n2_; have HB := n3_; clear n0_ n1_ n2_ n3_; (try clear hb); (try clear hb2); (try clear hk); (try clear hi); (try clear ho0); obtain ⟨Ao16, co16, eo16⟩ := Kd.R_slice HO12011.out; subst eo16) | ((with_reducible refine gate_callee (f := 19) rfl ?_); refine goesL_ (some 18) rfl rfl Tryd.func19 (by kernel_rfl) rfl #[.slice Ao16 t12007.length co16, .int .i64 t12008, .string (⟨#[100, 105, 115, 107]⟩ : ByteArray), .slice none 0 0] rfl (by (try simp only [List.map_toArray, List.map_cons, List.map_nil]); first | done | rfl | (simp only [List.length_drop, List.length_take]; rfl)) ?_; (refine (tree_Add.calls _ _ t12007 t12008 (⟨#[100, 105, 115, 107]⟩ : ByteArray) _ _ ([] : List Int) t12012 t12013 t12014 _ ?side1 ?side2 ?side3 ?side4 A3.out).mono ?_); (case side1 => repeat (first | exact (Kd.R_reads' HO12011.out).2.2 | (with_reducible refine Kd.C_alloc ?_ _) | (with_reducible refine Kd.C_drewN ?_ _) | (with_reducible refine Kd.C_drew ?_))); (case side2 => exact (Kd.R_reads' HO12011.out).2.1); (case side3 => exact Kd.C_nil _ _); (case side4 => exact Nat.le_refl _); rintro e w17 ⟨v12015, rfl, ho0, hb⟩; refine ⟨_, rfl, ?_⟩; have n0_ := Aside0.mk (Kd.R_elder' (by (with_reducible repeat (first | apply Kd.R_alloc | apply Kd.R_drewN | apply Kd.R_drew)); exact HO12003.out) (Kd.R_base ho0) hb); have n1_ := Aside0.mk (Kd.R_below (by (with_reducible repeat (first | apply Kd.R_alloc | apply Kd.R_drewN | apply Kd.R_drew)); exact HO12006.out) hb); have n2_ := Aside0.mk (Kd.R_elder' (by (with_reducible repeat (first | apply Kd.R_alloc | apply Kd.R_drewN | apply Kd.R_drew)); exact HO12011.out) (Kd.R_base ho0) hb); have n3_ := Aside0.mk (Kd.R_lower (Kd.R_new' (Kd.R_new' (Kd.R_new' ho0 (Kd.R_lt (by (with_reducible repeat (first | apply Kd.R_alloc | apply Kd.R_drewN | apply Kd.R_drew)); exact HO12003.out))) (Kd.R_lt (by (with_reducible repeat (first | apply Kd.R_alloc | apply Kd.R_drewN | apply Kd.R_drew)); exact HO12006.out))) (Kd.R_lt (by (with_reducible repeat (first | apply Kd.R_alloc | apply Kd.R_drewN | apply Kd.R_drew)); exact HO12011.out))) (below_size (by repeat (first | (with_reducible first | exact HB.out | apply below_alloc | apply pw_below_drewN | apply below_drew1) | exact HB.out)))); have n4_ := Aside0.mk (below_step (by repeat (first | (with_reducible first | exact HB.out | apply below_alloc | apply pw_below_drewN | apply below_drew1) | exact HB.out)) hb); clear HO12003; clear HO12006; clear HO12011; clear HB; have HO12003 := n0_; have HO12006 := n1_; have HO12011 := n2_; have HO12016 := n3_; have HB := n4_; clear n0_ n1_ n2_ n3_ n4_; (try clear hb); (try clear hb2); (try clear hk); (try clear hi); (try clear ho0); obtain ⟨Ao18, co18, eo18⟩ := Kd.R_slice HO12016.out; subst eo18) | ((with_reducible refine gate_callee (f := 23) rfl ?_); refine goesL_ (some 25) rfl rfl Tryd.func23 (by kernel_rfl) rfl #[.slice Ao18 t12012.length co18, .int .i64 t12013] rfl (by (try simp only [List.map_toArray, List.map_cons, List.map_nil]); first | done | rfl | (simp only [List.length_drop, List.length_take]; rfl)) ?_; (with_reducible refine (tree_Path.calls _ _ t12012 t12013 t12017 t12018 _ (QB.Tabs.below ht (by repeat (first | (with_reducible first | exact HB.out | apply below_alloc | apply pw_below_drewN | apply below_drew1 | refine below_set ?_ (Aside0.out (by assumption))) | exact HB.out))) ?side1 ?side2 A4.out).mono ?_); (case side1 => repeat (first | exact (Kd.R_reads' HO12016.out).2.2 | (with_reducible refine Kd.C_alloc ?_ _) | (with_reducible refine Kd.C_drewN ?_ _) | (with_reducible refine Kd.C_drew ?_))); (case side2 => exact (Kd.R_reads' HO12016.out).2.1); rintro e w19 ⟨rfl, hb⟩; refine ⟨_, rfl, ?_⟩; have n0_ := Aside0.mk (Kd.R_below (by (with_reducible repeat (first | apply Kd.R_alloc | apply Kd.R_drewN | apply Kd.R_drew)); exact HO12003.out) hb); have n1_ := Aside0.mk (Kd.R_below (by (with_reducible repeat (first | apply Kd.R_alloc | apply Kd.R_drewN | apply Kd.R_drew)); exact HO12006.out) hb); have n2_ := Aside0.mk (Kd.R_below (by (with_reducible repeat (first | apply Kd.R_alloc | apply Kd.R_drewN | apply Kd.R_drew)); exact HO12011.out) hb); have n3_ := Aside0.mk (Kd.R_below (by (with_reducible repeat (first | apply Kd.R_alloc | apply Kd.R_drewN | apply Kd.R_drew)); exact HO12016.out) hb); have n4_ := Aside0.mk (below_step (by repeat (first | (with_reducible first | exact HB.out | apply below_alloc | apply pw_below_drewN | apply below_drew1) | exact HB.out)) hb); clear HO12003; clear HO12006; clear HO12011; clear HO12016; clear HB; have HO12003 := n0_; have HO12006 := n1_; have HO12011 := n2_; have HO12016 := n3_; have HB := n4_; clear n0_ n1_ n2_ n3_ n4_; (try clear hb); (try clear hb2); (try clear hk); (try clear hi)))
            go_ret
            exact ⟨by first | rfl | (simp [errW_none, errW_some] <;> rfl) | (simp [*, errW_none, errW_some] <;> rfl), by repeat (first | (with_reducible first | exact HB.out | apply below_alloc | apply pw_below_drewN | apply below_drew1) | exact HB.out)⟩
          · rw [if_neg c9] at H
            have c9b0 : (t12017.toList == ([47, 112, 99, 105, 64, 49, 102, 47, 100, 105, 115, 107] : List UInt8)) = false := beq_eq_false_iff_ne.mpr c9
            have c9b1 : (t12017.toList != ([47, 112, 99, 105, 64, 49, 102, 47, 100, 105, 115, 107] : List UInt8)) = true := bne_iff_ne.mpr c9
            obtain rfl := Option.some.inj H
            go_enter Tryd.func11, Tryd.ntmps11
            go_wp2_with (first | ((with_reducible refine gate_callee (f := 16) rfl ?_); refine goesL_ (some 9) rfl rfl Tryd.func16 (by kernel_rfl) rfl #[] rfl (by (try simp only [List.map_toArray, List.map_cons, List.map_nil]); first | done | rfl | (simp only [List.length_drop, List.length_take]; rfl)) ?_; (with_reducible refine (tree_New.calls  t12001 _ A1.out).mono ?_); rintro e w20 ⟨v12002, rfl, ho0, hb⟩; refine ⟨_, rfl, ?_⟩; have n0_ := Aside0.mk (Kd.R_lower ho0 (below_size (by repeat (first | (with_reducible first | exact HB.out | apply below_alloc | apply pw_below_drewN | apply below_drew1) | exact HB.out)))); have n1_ := Aside0.mk (below_step (by repeat (first | (with_reducible first | exact HB.out | apply below_alloc | apply pw_below_drewN | apply below_drew1) | exact HB.out)) hb); clear HB; have HO12003 := n0_; have HB := n1_; clear n0_ n1_; (try clear hb); (try clear hb2); (try clear hk); (try clear hi); (try clear ho0)) | ((with_reducible refine gate_dst (N := 10) rfl ?_); refine Kd.R_lit (Kd.int .u32) _ 66 ?hg (N := 10) ?hd (xs := ([31] : List Int)) (inner := [.int .u32 31]) (ok := fun _ => True) (okp := fun _ => True) ?hr ?hp (fun _ hk => hk) trivial (Below.refl _ _) (Nat.le_refl _) (by simp) ?_; (case hd => rfl); (case hg => rfl); (case hr => first | (go_simp; done) | (go_simp; rfl)); (case hp => exact (Reps.one (show Kd.M (Kd.int .u32) _ _ _ 31 [.int .u32 31] from rfl) (Reps.none _ _))); intro v12005 w21 ho22 hb hg_ hnew_; clear hg_ hnew_; (first | rw [← Ny12004.out] at ho22 | (simp only [Int.reduceToNat] at ho22; rw [← Ny12004.out] at ho22)); have n0_ := Aside0.mk (Kd.R_elder' (by (with_reducible repeat (first | apply Kd.R_alloc | apply Kd.R_drewN | apply Kd.R_drew)); exact HO12003.out) (Kd.R_base ho22) hb); have n1_ := Aside0.mk (Kd.R_lower ho22 (below_size (by repeat (first | (with_reducible first | exact HB.out | apply below_alloc | apply pw_below_drewN | apply below_drew1) | exact HB.out)))); have n2_ := Aside0.mk (below_step (by repeat (first | (with_reducible first | exact HB.out | apply below_alloc | apply pw_below_drewN | apply below_drew1) | exact HB.out)) hb); clear HO12003; clear HB; have HO12003 := n0_; have HO12006 := n1_; have HB := n2_; clear n0_ n1_ n2_; clear hb ho22; obtain ⟨Ao23, co23, eo23⟩ := Kd.R_slice HO12003.out; subst eo23; obtain ⟨Ao24, co24, eo24⟩ := Kd.R_slice HO12006.out; subst eo24) | ((with_reducible refine gate_callee (f := 19) rfl ?_); refine goesL_ (some 11) rfl rfl Tryd.func19 (by kernel_rfl) rfl #[.slice Ao23 t12001.length co23, .int .i64 0, .string (⟨#[112, 99, 105]⟩ : ByteArray), .slice Ao24 y12004.length co24] rfl (by (try simp only [List.map_toArray, List.map_cons, List.map_nil]); first | done | rfl | (simp only [List.length_drop, List.length_take]; rfl)) ?_; (with_reducible refine (tree_Add.calls _ _ t12001 0 (⟨#[112, 99, 105]⟩ : ByteArray) _ _ y12004 t12007 t12008 t12009 _ ?side1 ?side2 ?side3 ?side4 A2.out).mono ?_); (case side1 => repeat (first | exact (Kd.R_reads' HO12003.out).2.2 | (with_reducible refine Kd.C_alloc ?_ _) | (with_reducible refine Kd.C_drewN ?_ _) | (with_reducible refine Kd.C_drew ?_))); (case side2 => exact (Kd.R_reads' HO12003.out).2.1); (case side3 => repeat (first | exact (Kd.R_reads' HO12006.out).2.2 | (with_reducible refine Kd.C_alloc ?_ _) | (with_reducible refine Kd.C_drewN ?_ _) | (with_reducible refine Kd.C_drew ?_))); (case side4 => exact (Kd.R_reads' HO12006.out).2.1); rintro e w25 ⟨v12010, rfl, ho0, hb⟩; refine ⟨_, rfl, ?_⟩; have n0_ := Aside0.mk (Kd.R_elder' (by (with_reducible repeat (first | apply Kd.R_alloc | apply Kd.R_drewN | apply Kd.R_drew)); exact HO12003.out) (Kd.R_base ho0) hb); have n1_ := Aside0.mk (Kd.R_below (by (with_reducible repeat (first | apply Kd.R_alloc | apply Kd.R_drewN | apply Kd.R_drew)); exact HO12006.out) hb); have n2_ := Aside0.mk (Kd.R_lower (Kd.R_new' (Kd.R_new' ho0 (Kd.R_lt (by (with_reducible repeat (first | apply Kd.R_alloc | apply Kd.R_drewN | apply Kd.R_drew)); exact HO12003.out))) (Kd.R_lt (by (with_reducible repeat (first | apply Kd.R_alloc | apply Kd.R_drewN | apply Kd.R_drew)); exact HO12006.out))) (below_size (by repeat (first | (with_reducible first | exact HB.out | apply below_alloc | apply pw_below_drewN | apply below_drew1) | exact HB.out)))); have n3_ := Aside0.mk (below_step (by repeat (first | (with_reducible first | exact HB.out | apply below_alloc | apply pw_below_drewN | apply below_drew1) | exact HB.out)) hb); clear HO12003; clear HO12006; clear HB; have HO12003 := n0_; have HO12006 := n1_; have HO12011 := n2_; have HB := n3_; clear n0_ n1_ n2_ n3_; (try clear hb); (try clear hb2); (try clear hk); (try clear hi); (try clear ho0); obtain ⟨Ao26, co26, eo26⟩ := Kd.R_slice HO12011.out; subst eo26) | ((with_reducible refine gate_callee (f := 19) rfl ?_); refine goesL_ (some 18) rfl rfl Tryd.func19 (by kernel_rfl) rfl #[.slice Ao26 t12007.length co26, .int .i64 t12008, .string (⟨#[100, 105, 115, 107]⟩ : ByteArray), .slice none 0 0] rfl (by (try simp only [List.map_toArray, List.map_cons, List.map_nil]); first | done | rfl | (simp only [List.length_drop, List.length_take]; rfl)) ?_; (refine (tree_Add.calls _ _ t12007 t12008 (⟨#[100, 105, 115, 107]⟩ : ByteArray) _ _ ([] : List Int) t12012 t12013 t12014 _ ?side1 ?side2 ?side3 ?side4 A3.out).mono ?_); (case side1 => repeat (first | exact (Kd.R_reads' HO12011.out).2.2 | (with_reducible refine Kd.C_alloc ?_ _) | (with_reducible refine Kd.C_drewN ?_ _) | (with_reducible refine Kd.C_drew ?_))); (case side2 => exact (Kd.R_reads' HO12011.out).2.1); (case side3 => exact Kd.C_nil _ _); (case side4 => exact Nat.le_refl _); rintro e w27 ⟨v12015, rfl, ho0, hb⟩; refine ⟨_, rfl, ?_⟩; have n0_ := Aside0.mk (Kd.R_elder' (by (with_reducible repeat (first | apply Kd.R_alloc | apply Kd.R_drewN | apply Kd.R_drew)); exact HO12003.out) (Kd.R_base ho0) hb); have n1_ := Aside0.mk (Kd.R_below (by (with_reducible repeat (first | apply Kd.R_alloc | apply Kd.R_drewN | apply Kd.R_drew)); exact HO12006.out) hb); have n2_ := Aside0.mk (Kd.R_elder' (by (with_reducible repeat (first | apply Kd.R_alloc | apply Kd.R_drewN | apply Kd.R_drew)); exact HO12011.out) (Kd.R_base ho0) hb); have n3_ := Aside0.mk (Kd.R_lower (Kd.R_new' (Kd.R_new' (Kd.R_new' ho0 (Kd.R_lt (by (with_reducible repeat (first | apply Kd.R_alloc | apply Kd.R_drewN | apply Kd.R_drew)); exact HO12003.out))) (Kd.R_lt (by (with_reducible repeat (first | apply Kd.R_alloc | apply Kd.R_drewN | apply Kd.R_drew)); exact HO12006.out))) (Kd.R_lt (by (with_reducible repeat (first | apply Kd.R_alloc | apply Kd.R_drewN | apply Kd.R_drew)); exact HO12011.out))) (below_size (by repeat (first | (with_reducible first | exact HB.out | apply below_alloc | apply pw_below_drewN | apply below_drew1) | exact HB.out)))); have n4_ := Aside0.mk (below_step (by repeat (first | (with_reducible first | exact HB.out | apply below_alloc | apply pw_below_drewN | apply below_drew1) | exact HB.out)) hb); clear HO12003; clear HO12006; clear HO12011; clear HB; have HO12003 := n0_; have HO12006 := n1_; have HO12011 := n2_; have HO12016 := n3_; have HB := n4_; clear n0_ n1_ n2_ n3_ n4_; (try clear hb); (try clear hb2); (try clear hk); (try clear hi); (try clear ho0); obtain ⟨Ao28, co28, eo28⟩ := Kd.R_slice HO12016.out; subst eo28) | ((with_reducible refine gate_callee (f := 23) rfl ?_); refine goesL_ (some 25) rfl rfl Tryd.func23 (by kernel_rfl) rfl #[.slice Ao28 t12012.length co28, .int .i64 t12013] rfl (by (try simp only [List.map_toArray, List.map_cons, List.map_nil]); first | done | rfl | (simp only [List.length_drop, List.length_take]; rfl)) ?_; (with_reducible refine (tree_Path.calls _ _ t12012 t12013 t12017 t12018 _ (QB.Tabs.below ht (by repeat (first | (with_reducible first | exact HB.out | apply below_alloc | apply pw_below_drewN | apply below_drew1 | refine below_set ?_ (Aside0.out (by assumption))) | exact HB.out))) ?side1 ?side2 A4.out).mono ?_); (case side1 => repeat (first | exact (Kd.R_reads' HO12016.out).2.2 | (with_reducible refine Kd.C_alloc ?_ _) | (with_reducible refine Kd.C_drewN ?_ _) | (with_reducible refine Kd.C_drew ?_))); (case side2 => exact (Kd.R_reads' HO12016.out).2.1); rintro e w29 ⟨rfl, hb⟩; refine ⟨_, rfl, ?_⟩; have n0_ := Aside0.mk (Kd.R_below (by (with_reducible repeat (first | apply Kd.R_alloc | apply Kd.R_drewN | apply Kd.R_drew)); exact HO12003.out) hb); have n1_ := Aside0.mk (Kd.R_below (by (with_reducible repeat (first | apply Kd.R_alloc | apply Kd.R_drewN | apply Kd.R_drew)); exact HO12006.out) hb); have n2_ := Aside0.mk (Kd.R_below (by (with_reducible repeat (first | apply Kd.R_alloc | apply Kd.R_drewN | apply Kd.R_drew)); exact HO12011.out) hb); have n3_ := Aside0.mk (Kd.R_below (by (with_reducible repeat (first | apply Kd.R_alloc | apply Kd.R_drewN | apply Kd.R_drew)); exact HO12016.out) hb); have n4_ := Aside0.mk (below_step (by repeat (first | (with_reducible first | exact HB.out | apply below_alloc | apply pw_below_drewN | apply below_drew1) | exact HB.out)) hb); clear HO12003; clear HO12006; clear HO12011; clear HO12016; clear HB; have HO12003 := n0_; have HO12006 := n1_; have HO12011 := n2_; have HO12016 := n3_; have HB := n4_; clear n0_ n1_ n2_ n3_ n4_; (try clear hb); (try clear hb2); (try clear hk); (try clear hi)))
            go_ret
            exact ⟨by first | rfl | (simp [errW_none, errW_some] <;> rfl) | (simp [*, errW_none, errW_some] <;> rfl), by repeat (first | (with_reducible first | exact HB.out | apply below_alloc | apply pw_below_drewN | apply below_drew1) | exact HB.out)⟩
        · rw [if_neg c8] at H
          have c8b0 : (t12013 == 2) = false := beq_eq_false_iff_ne.mpr c8
          have c8b1 : (t12013 != 2) = true := bne_iff_ne.mpr c8
          obtain rfl := Option.some.inj H
          go_enter Tryd.func11, Tryd.ntmps11
          go_wp2_with (first | ((with_reducible refine gate_callee (f := 16) rfl ?_); refine goesL_ (some 9) rfl rfl Tryd.func16 (by kernel_rfl) rfl #[] rfl (by (try simp only [List.map_toArray, List.map_cons, List.map_nil]); first | done | rfl | (simp only [List.length_drop, List.length_take]; rfl)) ?_; (with_reducible refine (tree_New.calls  t12001 _ A1.out).mono ?_); rintro e w30 ⟨v12002, rfl, ho0, hb⟩; refine ⟨_, rfl, ?_⟩; have n0_ := Aside0.mk (Kd.R_lower ho0 (below_size (by repeat (first | (with_reducible first | exact HB.out | apply below_alloc | apply pw_below_drewN | apply below_drew1) | exact HB.out)))); have n1_ := Aside0.mk (below_step (by repeat (first | (with_reducible first | exact HB.out | apply below_alloc | apply pw_below_drewN | apply below_drew1) | exact HB.out)) hb); clear HB; have HO12003 := n0_; have HB := n1_; clear n0_ n1_; (try clear hb); (try clear hb2); (try clear hk); (try clear hi); (try clear ho0)) | ((with_reducible refine gate_dst (N := 10) rfl ?_); refine Kd.R_lit (Kd.int .u32) _ 66 ?hg (N := 10) ?hd (xs := ([31] : List Int)) (inner := [.int .u32 31]) (ok := fun _ => True) (okp := fun _ => True) ?hr ?hp (fun _ hk => hk) trivial (Below.refl _ _) (Nat.le_refl _) (by simp) ?_; (case hd => rfl); (case hg => rfl); (case hr => first | (go_simp; done) | (go_simp; rfl)); (case hp => exact (Reps.one (show Kd.M (Kd.int .u32) _ _ _ 31 [.int .u32 31] from rfl) (Reps.none _ _))); intro v12005 w31 ho32 hb hg_ hnew_; clear hg_ hnew_; (first | rw [← Ny12004.out] at ho32 | (simp only [Int.reduceToNat] at ho32; rw [← Ny12004.out] at ho32)); have n0_ := Aside0.mk (Kd.R_elder' (by (with_reducible repeat (first | apply Kd.R_alloc | apply Kd.R_drewN | apply Kd.R_drew)); exact HO12003.out) (Kd.R_base ho32) hb); have n1_ := Aside0.mk (Kd.R_lower ho32 (below_size (by repeat (first | (with_reducible first | exact HB.out | apply below_alloc | apply pw_below_drewN | apply below_drew1) | exact HB.out)))); have n2_ := Aside0.mk (below_step (by repeat (first | (with_reducible first | exact HB.out | apply below_alloc | apply pw_below_drewN | apply below_drew1) | exact HB.out)) hb); clear HO12003; clear HB; have HO12003 := n0_; have HO12006 := n1_; have HB := n2_; clear n0_ n1_ n2_; clear hb ho32; obtain ⟨Ao33, co33, eo33⟩ := Kd.R_slice HO12003.out; subst eo33; obtain ⟨Ao34, co34, eo34⟩ := Kd.R_slice HO12006.out; subst eo34) | ((with_reducible refine gate_callee (f := 19) rfl ?_); refine goesL_ (some 11) rfl rfl Tryd.func19 (by kernel_rfl) rfl #[.slice Ao33 t12001.length co33, .int .i64 0, .string (⟨#[112, 99, 105]⟩ : ByteArray), .slice Ao34 y12004.length co34] rfl (by (try simp only [List.map_toArray, List.map_cons, List.map_nil]); first | done | rfl | (simp only [List.length_drop, List.length_take]; rfl)) ?_; (with_reducible refine (tree_Add.calls _ _ t12001 0 (⟨#[112, 99, 105]⟩ : ByteArray) _ _ y12004 t12007 t12008 t12009 _ ?side1 ?side2 ?side3 ?side4 A2.out).mono ?_); (case side1 => repeat (first | exact (Kd.R_reads' HO12003.out).2.2 | (with_reducible refine Kd.C_alloc ?_ _) | (with_reducible refine Kd.C_drewN ?_ _) | (with_reducible refine Kd.C_drew ?_))); (case side2 => exact (Kd.R_reads' HO12003.out).2.1); (case side3 => repeat (first | exact (Kd.R_reads' HO12006.out).2.2 | (with_reducible refine Kd.C_alloc ?_ _) | (with_reducible refine Kd.C_drewN ?_ _) | (with_reducible refine Kd.C_drew ?_))); (case side4 => exact (Kd.R_reads' HO12006.out).2.1); rintro e w35 ⟨v12010, rfl, ho0, hb⟩; refine ⟨_, rfl, ?_⟩; have n0_ := Aside0.mk (Kd.R_elder' (by (with_reducible repeat (first | apply Kd.R_alloc | apply Kd.R_drewN | apply Kd.R_drew)); exact HO12003.out) (Kd.R_base ho0) hb); have n1_ := Aside0.mk (Kd.R_below (by (with_reducible repeat (first | apply Kd.R_alloc | apply Kd.R_drewN | apply Kd.R_drew)); exact HO12006.out) hb); have n2_ := Aside0.mk (Kd.R_lower (Kd.R_new' (Kd.R_new' ho0 (Kd.R_lt (by (with_reducible repeat (first | apply Kd.R_alloc | apply Kd.R_drewN | apply Kd.R_drew)); exact HO12003.out))) (Kd.R_lt (by (with_reducible repeat (first | apply Kd.R_alloc | apply Kd.R_drewN | apply Kd.R_drew)); exact HO12006.out))) (below_size (by repeat (first | (with_reducible first | exact HB.out | apply below_alloc | apply pw_below_drewN | apply below_drew1) | exact HB.out)))); have n3_ := Aside0.mk (below_step (by repeat (first | (with_reducible first | exact HB.out | apply below_alloc | apply pw_below_drewN | apply below_drew1) | exact HB.out)) hb); clear HO12003; clear HO12006; clear HB; have HO12003 := n0_; have HO12006 := n1_; have HO12011 := n2_; have HB := n3_; clear n0_ n1_ n2_ n3_; (try clear hb); (try clear hb2); (try clear hk); (try clear hi); (try clear ho0); obtain ⟨Ao36, co36, eo36⟩ := Kd.R_slice HO12011.out; subst eo36) | ((with_reducible refine gate_callee (f := 19) rfl ?_); refine goesL_ (some 18) rfl rfl Tryd.func19 (by kernel_rfl) rfl #[.slice Ao36 t12007.length co36, .int .i64 t12008, .string (⟨#[100, 105, 115, 107]⟩ : ByteArray), .slice none 0 0] rfl (by (try simp only [List.map_toArray, List.map_cons, List.map_nil]); first | done | rfl | (simp only [List.length_drop, List.length_take]; rfl)) ?_; (refine (tree_Add.calls _ _ t12007 t12008 (⟨#[100, 105, 115, 107]⟩ : ByteArray) _ _ ([] : List Int) t12012 t12013 t12014 _ ?side1 ?side2 ?side3 ?side4 A3.out).mono ?_); (case side1 => repeat (first | exact (Kd.R_reads' HO12011.out).2.2 | (with_reducible refine Kd.C_alloc ?_ _) | (with_reducible refine Kd.C_drewN ?_ _) | (with_reducible refine Kd.C_drew ?_))); (case side2 => exact (Kd.R_reads' HO12011.out).2.1); (case side3 => exact Kd.C_nil _ _); (case side4 => exact Nat.le_refl _); rintro e w37 ⟨v12015, rfl, ho0, hb⟩; refine ⟨_, rfl, ?_⟩; have n0_ := Aside0.mk (Kd.R_elder' (by (with_reducible repeat (first | apply Kd.R_alloc | apply Kd.R_drewN | apply Kd.R_drew)); exact HO12003.out) (Kd.R_base ho0) hb); have n1_ := Aside0.mk (Kd.R_below (by (with_reducible repeat (first | apply Kd.R_alloc | apply Kd.R_drewN | apply Kd.R_drew)); exact HO12006.out) hb); have n2_ := Aside0.mk (Kd.R_elder' (by (with_reducible repeat (first | apply Kd.R_alloc | apply Kd.R_drewN | apply Kd.R_drew)); exact HO12011.out) (Kd.R_base ho0) hb); have n3_ := Aside0.mk (Kd.R_lower (Kd.R_new' (Kd.R_new' (Kd.R_new' ho0 (Kd.R_lt (by (with_reducible repeat (first | apply Kd.R_alloc | apply Kd.R_drewN | apply Kd.R_drew)); exact HO12003.out))) (Kd.R_lt (by (with_reducible repeat (first | apply Kd.R_alloc | apply Kd.R_drewN | apply Kd.R_drew)); exact HO12006.out))) (Kd.R_lt (by (with_reducible repeat (first | apply Kd.R_alloc | apply Kd.R_drewN | apply Kd.R_drew)); exact HO12011.out))) (below_size (by repeat (first | (with_reducible first | exact HB.out | apply below_alloc | apply pw_below_drewN | apply below_drew1) | exact HB.out)))); have n4_ := Aside0.mk (below_step (by repeat (first | (with_reducible first | exact HB.out | apply below_alloc | apply pw_below_drewN | apply below_drew1) | exact HB.out)) hb); clear HO12003; clear HO12006; clear HO12011; clear HB; have HO12003 := n0_; have HO12006 := n1_; have HO12011 := n2_; have HO12016 := n3_; have HB := n4_; clear n0_ n1_ n2_ n3_ n4_; (try clear hb); (try clear hb2); (try clear hk); (try clear hi); (try clear ho0); obtain ⟨Ao38, co38, eo38⟩ := Kd.R_slice HO12016.out; subst eo38) | ((with_reducible refine gate_callee (f := 23) rfl ?_); refine goesL_ (some 25) rfl rfl Tryd.func23 (by kernel_rfl) rfl #[.slice Ao38 t12012.length co38, .int .i64 t12013] rfl (by (try simp only [List.map_toArray, List.map_cons, List.map_nil]); first | done | rfl | (simp only [List.length_drop, List.length_take]; rfl)) ?_; (with_reducible refine (tree_Path.calls _ _ t12012 t12013 t12017 t12018 _ (QB.Tabs.below ht (by repeat (first | (with_reducible first | exact HB.out | apply below_alloc | apply pw_below_drewN | apply below_drew1 | refine below_set ?_ (Aside0.out (by assumption))) | exact HB.out))) ?side1 ?side2 A4.out).mono ?_); (case side1 => repeat (first | exact (Kd.R_reads' HO12016.out).2.2 | (with_reducible refine Kd.C_alloc ?_ _) | (with_reducible refine Kd.C_drewN ?_ _) | (with_reducible refine Kd.C_drew ?_))); (case side2 => exact (Kd.R_reads' HO12016.out).2.1); rintro e w39 ⟨rfl, hb⟩; refine ⟨_, rfl, ?_⟩; have n0_ := Aside0.mk (Kd.R_below (by (with_reducible repeat (first | apply Kd.R_alloc | apply Kd.R_drewN | apply Kd.R_drew)); exact HO12003.out) hb); have n1_ := Aside0.mk (Kd.R_below (by (with_reducible repeat (first | apply Kd.R_alloc | apply Kd.R_drewN | apply Kd.R_drew)); exact HO12006.out) hb); have n2_ := Aside0.mk (Kd.R_below (by (with_reducible repeat (first | apply Kd.R_alloc | apply Kd.R_drewN | apply Kd.R_drew)); exact HO12011.out) hb); have n3_ := Aside0.mk (Kd.R_below (by (with_reducible repeat (first | apply Kd.R_alloc | apply Kd.R_drewN | apply Kd.R_drew)); exact HO12016.out) hb); have n4_ := Aside0.mk (below_step (by repeat (first | (with_reducible first | exact HB.out | apply below_alloc | apply pw_below_drewN | apply below_drew1) | exact HB.out)) hb); clear HO12003; clear HO12006; clear HO12011; clear HO12016; clear HB; have HO12003 := n0_; have HO12006 := n1_; have HO12011 := n2_; have HO12016 := n3_; have HB := n4_; clear n0_ n1_ n2_ n3_ n4_; (try clear hb); (try clear hb2); (try clear hk); (try clear hi)))
          go_ret
          exact ⟨by first | rfl | (simp [errW_none, errW_some] <;> rfl) | (simp [*, errW_none, errW_some] <;> rfl), by repeat (first | (with_reducible first | exact HB.out | apply below_alloc | apply pw_below_drewN | apply below_drew1) | exact HB.out)⟩
      · rw [if_neg c7] at H
        have c7b0 : (t12008 == 1) = false := beq_eq_false_iff_ne.mpr c7
        have c7b1 : (t12008 != 1) = true := bne_iff_ne.mpr c7
        obtain rfl := Option.some.inj H
        go_enter Tryd.func11, Tryd.ntmps11
        go_wp2_with (first | ((with_reducible refine gate_callee (f := 16) rfl ?_); refine goesL_ (some 9) rfl rfl Tryd.func16 (by kernel_rfl) rfl #[] rfl (by (try simp only [List.map_toArray, List.map_cons, List.map_nil]); first | done | rfl | (simp only [List.length_drop, List.length_take]; rfl)) ?_; (with_reducible refine (tree_New.calls  t12001 _ A1.out).mono ?_); rintro e w40 ⟨v12002, rfl, ho0, hb⟩; refine ⟨_, rfl, ?_⟩; have n0_ := Aside0.mk (Kd.R_lower ho0 (below_size (by repeat (first | (with_reducible first | exact HB.out | apply below_alloc | apply pw_below_drewN | apply below_drew1) | exact HB.out)))); have n1_ := Aside0.mk (below_step (by repeat (first | (with_reducible first | exact HB.out | apply below_alloc | apply pw_below_drewN | apply below_drew1) | exact HB.out)) hb); clear HB; have HO12003 := n0_; have HB := n1_; clear n0_ n1_; (try clear hb); (try clear hb2); (try clear hk); (try clear hi); (try clear ho0)) | ((with_reducible refine gate_dst (N := 10) rfl ?_); refine Kd.R_lit (Kd.int .u32) _ 66 ?hg (N := 10) ?hd (xs := ([31] : List Int)) (inner := [.int .u32 31]) (ok := fun _ => True) (okp := fun _ => True) ?hr ?hp (fun _ hk => hk) trivial (Below.refl _ _) (Nat.le_refl _) (by simp) ?_; (case hd => rfl); (case hg => rfl); (case hr => first | (go_simp; done) | (go_simp; rfl)); (case hp => exact (Reps.one (show Kd.M (Kd.int .u32) _ _ _ 31 [.int .u32 31] from rfl) (Reps.none _ _))); intro v12005 w41 ho42 hb hg_ hnew_; clear hg_ hnew_; (first | rw [← Ny12004.out] at ho42 | (simp only [Int.reduceToNat] at ho42; rw [← Ny12004.out] at ho42)); have n0_ := Aside0.mk (Kd.R_elder' (by (with_reducible repeat (first | apply Kd.R_alloc | apply Kd.R_drewN | apply Kd.R_drew)); exact HO12003.out) (Kd.R_base ho42) hb); have n1_ := Aside0.mk (Kd.R_lower ho42 (below_size (by repeat (first | (with_reducible first | exact HB.out | apply below_alloc | apply pw_below_drewN | apply below_drew1) | exact HB.out)))); have n2_ := Aside0.mk (below_step (by repeat (first | (with_reducible first | exact HB.out | apply below_alloc | apply pw_below_drewN | apply below_drew1) | exact HB.out)) hb); clear HO12003; clear HB; have HO12003 := n0_; have HO12006 := n1_; have HB := n2_; clear n0_ n1_ n2_; clear hb ho42; obtain ⟨Ao43, co43, eo43⟩ := Kd.R_slice HO12003.out; subst eo43; obtain ⟨Ao44, co44, eo44⟩ := Kd.R_slice HO12006.out; subst eo44) | ((with_reducible refine gate_callee (f := 19) rfl ?_); refine goesL_ (some 11) rfl rfl Tryd.func19 (by kernel_rfl) rfl #[.slice Ao43 t12001.length co43, .int .i64 0, .string (⟨#[112, 99, 105]⟩ : ByteArray), .slice Ao44 y12004.length co44] rfl (by (try simp only [List.map_toArray, List.map_cons, List.map_nil]); first | done | rfl | (simp only [List.length_drop, List.length_take]; rfl)) ?_; (with_reducible refine (tree_Add.calls _ _ t12001 0 (⟨#[112, 99, 105]⟩ : ByteArray) _ _ y12004 t12007 t12008 t12009 _ ?side1 ?side2 ?side3 ?side4 A2.out).mono ?_); (case side1 => repeat (first | exact (Kd.R_reads' HO12003.out).2.2 | (with_reducible refine Kd.C_alloc ?_ _) | (with_reducible refine Kd.C_drewN ?_ _) | (with_reducible refine Kd.C_drew ?_))); (case side2 => exact (Kd.R_reads' HO12003.out).2.1); (case side3 => repeat (first | exact (Kd.R_reads' HO12006.out).2.2 | (with_reducible refine Kd.C_alloc ?_ _) | (with_reducible refine Kd.C_drewN ?_ _) | (with_reducible refine Kd.C_drew ?_))); (case side4 => exact (Kd.R_reads' HO12006.out).2.1); rintro e w45 ⟨v12010, rfl, ho0, hb⟩; refine ⟨_, rfl, ?_⟩; have n0_ := Aside0.mk (Kd.R_elder' (by (with_reducible repeat (first | apply Kd.R_alloc | apply Kd.R_drewN | apply Kd.R_drew)); exact HO12003.out) (Kd.R_base ho0) hb); have n1_ := Aside0.mk (Kd.R_below (by (with_reducible repeat (first | apply Kd.R_alloc | apply Kd.R_drewN | apply Kd.R_drew)); exact HO12006.out) hb); have n2_ := Aside0.mk (Kd.R_lower (Kd.R_new' (Kd.R_new' ho0 (Kd.R_lt (by (with_reducible repeat (first | apply Kd.R_alloc | apply Kd.R_drewN | apply Kd.R_drew)); exact HO12003.out))) (Kd.R_lt (by (with_reducible repeat (first | apply Kd.R_alloc | apply Kd.R_drewN | apply Kd.R_drew)); exact HO12006.out))) (below_size (by repeat (first | (with_reducible first | exact HB.out | apply below_alloc | apply pw_below_drewN | apply below_drew1) | exact HB.out)))); have n3_ := Aside0.mk (below_step (by repeat (first | (with_reducible first | exact HB.out | apply below_alloc | apply pw_below_drewN | apply below_drew1) | exact HB.out)) hb); clear HO12003; clear HO12006; clear HB; have HO12003 := n0_; have HO12006 := n1_; have HO12011 := n2_; have HB := n3_; clear n0_ n1_ n2_ n3_; (try clear hb); (try clear hb2); (try clear hk); (try clear hi); (try clear ho0); obtain ⟨Ao46, co46, eo46⟩ := Kd.R_slice HO12011.out; subst eo46) | ((with_reducible refine gate_callee (f := 19) rfl ?_); refine goesL_ (some 18) rfl rfl Tryd.func19 (by kernel_rfl) rfl #[.slice Ao46 t12007.length co46, .int .i64 t12008, .string (⟨#[100, 105, 115, 107]⟩ : ByteArray), .slice none 0 0] rfl (by (try simp only [List.map_toArray, List.map_cons, List.map_nil]); first | done | rfl | (simp only [List.length_drop, List.length_take]; rfl)) ?_; (refine (tree_Add.calls _ _ t12007 t12008 (⟨#[100, 105, 115, 107]⟩ : ByteArray) _ _ ([] : List Int) t12012 t12013 t12014 _ ?side1 ?side2 ?side3 ?side4 A3.out).mono ?_); (case side1 => repeat (first | exact (Kd.R_reads' HO12011.out).2.2 | (with_reducible refine Kd.C_alloc ?_ _) | (with_reducible refine Kd.C_drewN ?_ _) | (with_reducible refine Kd.C_drew ?_))); (case side2 => exact (Kd.R_reads' HO12011.out).2.1); (case side3 => exact Kd.C_nil _ _); (case side4 => exact Nat.le_refl _); rintro e w47 ⟨v12015, rfl, ho0, hb⟩; refine ⟨_, rfl, ?_⟩; have n0_ := Aside0.mk (Kd.R_elder' (by (with_reducible repeat (first | apply Kd.R_alloc | apply Kd.R_drewN | apply Kd.R_drew)); exact HO12003.out) (Kd.R_base ho0) hb); have n1_ := Aside0.mk (Kd.R_below (by (with_reducible repeat (first | apply Kd.R_alloc | apply Kd.R_drewN | apply Kd.R_drew)); exact HO12006.out) hb); have n2_ := Aside0.mk (Kd.R_elder' (by (with_reducible repeat (first | apply Kd.R_alloc | apply Kd.R_drewN | apply Kd.R_drew)); exact HO12011.out) (Kd.R_base ho0) hb); have n3_ := Aside0.mk (Kd.R_lower (Kd.R_new' (Kd.R_new' (Kd.R_new' ho0 (Kd.R_lt (by (with_reducible repeat (first | apply Kd.R_alloc | apply Kd.R_drewN | apply Kd.R_drew)); exact HO12003.out))) (Kd.R_lt (by (with_reducible repeat (first | apply Kd.R_alloc | apply Kd.R_drewN | apply Kd.R_drew)); exact HO12006.out))) (Kd.R_lt (by (with_reducible repeat (first | apply Kd.R_alloc | apply Kd.R_drewN | apply Kd.R_drew)); exact HO12011.out))) (below_size (by repeat (first | (with_reducible first | exact HB.out | apply below_alloc | apply pw_below_drewN | apply below_drew1) | exact HB.out)))); have n4_ := Aside0.mk (below_step (by repeat (first | (with_reducible first | exact HB.out | apply below_alloc | apply pw_below_drewN | apply below_drew1) | exact HB.out)) hb); clear HO12003; clear HO12006; clear HO12011; clear HB; have HO12003 := n0_; have HO12006 := n1_; have HO12011 := n2_; have HO12016 := n3_; have HB := n4_; clear n0_ n1_ n2_ n3_ n4_; (try clear hb); (try clear hb2); (try clear hk); (try clear hi); (try clear ho0); obtain ⟨Ao48, co48, eo48⟩ := Kd.R_slice HO12016.out; subst eo48) | ((with_reducible refine gate_callee (f := 23) rfl ?_); refine goesL_ (some 25) rfl rfl Tryd.func23 (by kernel_rfl) rfl #[.slice Ao48 t12012.length co48, .int .i64 t12013] rfl (by (try simp only [List.map_toArray, List.map_cons, List.map_nil]); first | done | rfl | (simp only [List.length_drop, List.length_take]; rfl)) ?_; (with_reducible refine (tree_Path.calls _ _ t12012 t12013 t12017 t12018 _ (QB.Tabs.below ht (by repeat (first | (with_reducible first | exact HB.out | apply below_alloc | apply pw_below_drewN | apply below_drew1 | refine below_set ?_ (Aside0.out (by assumption))) | exact HB.out))) ?side1 ?side2 A4.out).mono ?_); (case side1 => repeat (first | exact (Kd.R_reads' HO12016.out).2.2 | (with_reducible refine Kd.C_alloc ?_ _) | (with_reducible refine Kd.C_drewN ?_ _) | (with_reducible refine Kd.C_drew ?_))); (case side2 => exact (Kd.R_reads' HO12016.out).2.1); rintro e w49 ⟨rfl, hb⟩; refine ⟨_, rfl, ?_⟩; have n0_ := Aside0.mk (Kd.R_below (by (with_reducible repeat (first | apply Kd.R_alloc | apply Kd.R_drewN | apply Kd.R_drew)); exact HO12003.out) hb); have n1_ := Aside0.mk (Kd.R_below (by (with_reducible repeat (first | apply Kd.R_alloc | apply Kd.R_drewN | apply Kd.R_drew)); exact HO12006.out) hb); have n2_ := Aside0.mk (Kd.R_below (by (with_reducible repeat (first | apply Kd.R_alloc | apply Kd.R_drewN | apply Kd.R_drew)); exact HO12011.out) hb); have n3_ := Aside0.mk (Kd.R_below (by (with_reducible repeat (first | apply Kd.R_alloc | apply Kd.R_drewN | apply Kd.R_drew)); exact HO12016.out) hb); have n4_ := Aside0.mk (below_step (by repeat (first | (with_reducible first | exact HB.out | apply below_alloc | apply pw_below_drewN | apply below_drew1) | exact HB.out)) hb); clear HO12003; clear HO12006; clear HO12011; clear HO12016; clear HB; have HO12003 := n0_; have HO12006 := n1_; have HO12011 := n2_; have HO12016 := n3_; have HB := n4_; clear n0_ n1_ n2_ n3_ n4_; (try clear hb); (try clear hb2); (try clear hk); (try clear hi)))
        go_ret
        exact ⟨by first | rfl | (simp [errW_none, errW_some] <;> rfl) | (simp [*, errW_none, errW_some] <;> rfl), by repeat (first | (with_reducible first | exact HB.out | apply below_alloc | apply pw_below_drewN | apply below_drew1) | exact HB.out)⟩
    · rw [if_neg c6] at H
      have c6b0 : (t12014 == 0) = false := beq_eq_false_iff_ne.mpr c6
      have c6b1 : (t12014 != 0) = true := bne_iff_ne.mpr c6
      obtain rfl := Option.some.inj H
      go_enter Tryd.func11, Tryd.ntmps11
      go_wp2_with (first | ((with_reducible refine gate_callee (f := 16) rfl ?_); refine goesL_ (some 9) rfl rfl Tryd.func16 (by kernel_rfl) rfl #[] rfl (by (try simp only [List.map_toArray, List.map_cons, List.map_nil]); first | done | rfl | (simp only [List.length_drop, List.length_take]; rfl)) ?_; (with_reducible refine (tree_New.calls  t12001 _ A1.out).mono ?_); rintro e w50 ⟨v12002, rfl, ho0, hb⟩; refine ⟨_, rfl, ?_⟩; have n0_ := Aside0.mk (Kd.R_lower ho0 (below_size (by repeat (first | (with_reducible first | exact HB.out | apply below_alloc | apply pw_below_drewN | apply below_drew1) | exact HB.out)))); have n1_ := Aside0.mk (below_step (by repeat (first | (with_reducible first | exact HB.out | apply below_alloc | apply pw_below_drewN | apply below_drew1) | exact HB.out)) hb); clear HB; have HO12003 := n0_; have HB := n1_; clear n0_ n1_; (try clear hb); (try clear hb2); (try clear hk); (try clear hi); (try clear ho0)) | ((with_reducible refine gate_dst (N := 10) rfl ?_); refine Kd.R_lit (Kd.int .u32) _ 66 ?hg (N := 10) ?hd (xs := ([31] : List Int)) (inner := [.int .u32 31]) (ok := fun _ => True) (okp := fun _ => True) ?hr ?hp (fun _ hk => hk) trivial (Below.refl _ _) (Nat.le_refl _) (by simp) ?_; (case hd => rfl); (case hg => rfl); (case hr => first | (go_simp; done) | (go_simp; rfl)); (case hp => exact (Reps.one (show Kd.M (Kd.int .u32) _ _ _ 31 [.int .u32 31] from rfl) (Reps.none _ _))); intro v12005 w51 ho52 hb hg_ hnew_; clear hg_ hnew_; (first | rw [← Ny12004.out] at ho52 | (simp only [Int.reduceToNat] at ho52; rw [← Ny12004.out] at ho52)); have n0_ := Aside0.mk (Kd.R_elder' (by (with_reducible repeat (first | apply Kd.R_alloc | apply Kd.R_drewN | apply Kd.R_drew)); exact HO12003.out) (Kd.R_base ho52) hb); have n1_ := Aside0.mk (Kd.R_lower ho52 (below_size (by repeat (first | (with_reducible first | exact HB.out | apply below_alloc | apply pw_below_drewN | apply below_drew1) | exact HB.out)))); have n2_ := Aside0.mk (below_step (by repeat (first | (with_reducible first | exact HB.out | apply below_alloc | apply pw_below_drewN | apply below_drew1) | exact HB.out)) hb); clear HO12003; clear HB; have HO12003 := n0_; have HO12006 := n1_; have HB := n2_; clear n0_ n1_ n2_; clear hb ho52; obtain ⟨Ao53, co53, eo53⟩ := Kd.R_slice HO12003.out; subst eo53; obtain ⟨Ao54, co54, eo54⟩ := Kd.R_slice HO12006.out; subst eo54) | ((with_reducible refine gate_callee (f := 19) rfl ?_); refine goesL_ (some 11) rfl rfl Tryd.func19 (by kernel_rfl) rfl #[.slice Ao53 t12001.length co53, .int .i64 0, .string (⟨#[112, 99, 105]⟩ : ByteArray), .slice Ao54 y12004.length co54] rfl (by (try simp only [List.map_toArray, List.map_cons, List.map_nil]); first | done | rfl | (simp only [List.length_drop, List.length_take]; rfl)) ?_; (with_reducible refine (tree_Add.calls _ _ t12001 0 (⟨#[112, 99, 105]⟩ : ByteArray) _ _ y12004 t12007 t12008 t12009 _ ?side1 ?side2 ?side3 ?side4 A2.out).mono ?_); (case side1 => repeat (first | exact (Kd.R_reads' HO12003.out).2.2 | (with_reducible refine Kd.C_alloc ?_ _) | (with_reducible refine Kd.C_drewN ?_ _) | (with_reducible refine Kd.C_drew ?_))); (case side2 => exact (Kd.R_reads' HO12003.out).2.1); (case side3 => repeat (first | exact (Kd.R_reads' HO12006.out).2.2 | (with_reducible refine Kd.C_alloc ?_ _) | (with_reducible refine Kd.C_drewN ?_ _) | (with_reducible refine Kd.C_drew ?_))); (case side4 => exact (Kd.R_reads' HO12006.out).2.1); rintro e w55 ⟨v12010, rfl, ho0, hb⟩; refine ⟨_, rfl, ?_⟩; have n0_ := Aside0.mk (Kd.R_elder' (by (with_reducible repeat (first | apply Kd.R_alloc | apply Kd.R_drewN | apply Kd.R_drew)); exact HO12003.out) (Kd.R_base ho0) hb); have n1_ := Aside0.mk (Kd.R_below (by (with_reducible repeat (first | apply Kd.R_alloc | apply Kd.R_drewN | apply Kd.R_drew)); exact HO12006.out) hb); have n2_ := Aside0.mk (Kd.R_lower (Kd.R_new' (Kd.R_new' ho0 (Kd.R_lt (by (with_reducible repeat (first | apply Kd.R_alloc | apply Kd.R_drewN | apply Kd.R_drew)); exact HO12003.out))) (Kd.R_lt (by (with_reducible repeat (first | apply Kd.R_alloc | apply Kd.R_drewN | apply Kd.R_drew)); exact HO12006.out))) (below_size (by repeat (first | (with_reducible first | exact HB.out | apply below_alloc | apply pw_below_drewN | apply below_drew1) | exact HB.out)))); have n3_ := Aside0.mk (below_step (by repeat (first | (with_reducible first | exact HB.out | apply below_alloc | apply pw_below_drewN | apply below_drew1) | exact HB.out)) hb); clear HO12003; clear HO12006; clear HB; have HO12003 := n0_; have HO12006 := n1_; have HO12011 := n2_; have HB := n3_; clear n0_ n1_ n2_ n3_; (try clear hb); (try clear hb2); (try clear hk); (try clear hi); (try clear ho0); obtain ⟨Ao56, co56, eo56⟩ := Kd.R_slice HO12011.out; subst eo56) | ((with_reducible refine gate_callee (f := 19) rfl ?_); refine goesL_ (some 18) rfl rfl Tryd.func19 (by kernel_rfl) rfl #[.slice Ao56 t12007.length co56, .int .i64 t12008, .string (⟨#[100, 105, 115, 107]⟩ : ByteArray), .slice none 0 0] rfl (by (try simp only [List.map_toArray, List.map_cons, List.map_nil]); first | done | rfl | (simp only [List.length_drop, List.length_take]; rfl)) ?_; (refine (tree_Add.calls _ _ t12007 t12008 (⟨#[100, 105, 115, 107]⟩ : ByteArray) _ _ ([] : List Int) t12012 t12013 t12014 _ ?side1 ?side2 ?side3 ?side4 A3.out).mono ?_); (case side1 => repeat (first | exact (Kd.R_reads' HO12011.out).2.2 | (with_reducible refine Kd.C_alloc ?_ _) | (with_reducible refine Kd.C_drewN ?_ _) | (with_reducible refine Kd.C_drew ?_))); (case side2 => exact (Kd.R_reads' HO12011.out).2.1); (case side3 => exact Kd.C_nil _ _); (case side4 => exact Nat.le_refl _); rintro e w57 ⟨v12015, rfl, ho0, hb⟩; refine ⟨_, rfl, ?_⟩; have n0_ := Aside0.mk (Kd.R_elder' (by (with_reducible repeat (first | apply Kd.R_alloc | apply Kd.R_drewN | apply Kd.R_drew)); exact HO12003.out) (Kd.R_base ho0) hb); have n1_ := Aside0.mk (Kd.R_below (by (with_reducible repeat (first | apply Kd.R_alloc | apply Kd.R_drewN | apply Kd.R_drew)); exact HO12006.out) hb); have n2_ := Aside0.mk (Kd.R_elder' (by (with_reducible repeat (first | apply Kd.R_alloc | apply Kd.R_drewN | apply Kd.R_drew)); exact HO12011.out) (Kd.R_base ho0) hb); have n3_ := Aside0.mk (Kd.R_lower (Kd.R_new' (Kd.R_new' (Kd.R_new' ho0 (Kd.R_lt (by (with_reducible repeat (first | apply Kd.R_alloc | apply Kd.R_drewN | apply Kd.R_drew)); exact HO12003.out))) (Kd.R_lt (by (with_reducible repeat (first | apply Kd.R_alloc | apply Kd.R_drewN | apply Kd.R_drew)); exact HO12006.out))) (Kd.R_lt (by (with_reducible repeat (first | apply Kd.R_alloc | apply Kd.R_drewN | apply Kd.R_drew)); exact HO12011.out))) (below_size (by repeat (first | (with_reducible first | exact HB.out | apply below_alloc | apply pw_below_drewN | apply below_drew1) | exact HB.out)))); have n4_ := Aside0.mk (below_step (by repeat (first | (with_reducible first | exact HB.out | apply below_alloc | apply pw_below_drewN | apply below_drew1) | exact HB.out)) hb); clear HO12003; clear HO12006; clear HO12011; clear HB; have HO12003 := n0_; have HO12006 := n1_; have HO12011 := n2_; have HO12016 := n3_; have HB := n4_; clear n0_ n1_ n2_ n3_ n4_; (try clear hb); (try clear hb2); (try clear hk); (try clear hi); (try clear ho0); obtain ⟨Ao58, co58, eo58⟩ := Kd.R_slice HO12016.out; subst eo58) | ((with_reducible refine gate_callee (f := 23) rfl ?_); refine goesL_ (some 25) rfl rfl Tryd.func23 (by kernel_rfl) rfl #[.slice Ao58 t12012.length co58, .int .i64 t12013] rfl (by (try simp only [List.map_toArray, List.map_cons, List.map_nil]); first | done | rfl | (simp only [List.length_drop, List.length_take]; rfl)) ?_; (with_reducible refine (tree_Path.calls _ _ t12012 t12013 t12017 t12018 _ (QB.Tabs.below ht (by repeat (first | (with_reducible first | exact HB.out | apply below_alloc | apply pw_below_drewN | apply below_drew1 | refine below_set ?_ (Aside0.out (by assumption))) | exact HB.out))) ?side1 ?side2 A4.out).mono ?_); (case side1 => repeat (first | exact (Kd.R_reads' HO12016.out).2.2 | (with_reducible refine Kd.C_alloc ?_ _) | (with_reducible refine Kd.C_drewN ?_ _) | (with_reducible refine Kd.C_drew ?_))); (case side2 => exact (Kd.R_reads' HO12016.out).2.1); rintro e w59 ⟨rfl, hb⟩; refine ⟨_, rfl, ?_⟩; have n0_ := Aside0.mk (Kd.R_below (by (with_reducible repeat (first | apply Kd.R_alloc | apply Kd.R_drewN | apply Kd.R_drew)); exact HO12003.out) hb); have n1_ := Aside0.mk (Kd.R_below (by (with_reducible repeat (first | apply Kd.R_alloc | apply Kd.R_drewN | apply Kd.R_drew)); exact HO12006.out) hb); have n2_ := Aside0.mk (Kd.R_below (by (with_reducible repeat (first | apply Kd.R_alloc | apply Kd.R_drewN | apply Kd.R_drew)); exact HO12011.out) hb); have n3_ := Aside0.mk (Kd.R_below (by (with_reducible repeat (first | apply Kd.R_alloc | apply Kd.R_drewN | apply Kd.R_drew)); exact HO12016.out) hb); have n4_ := Aside0.mk (below_step (by repeat (first | (with_reducible first | exact HB.out | apply below_alloc | apply pw_below_drewN | apply below_drew1) | exact HB.out)) hb); clear HO12003; clear HO12006; clear HO12011; clear HO12016; clear HB; have HO12003 := n0_; have HO12006 := n1_; have HO12011 := n2_; have HO12016 := n3_; have HB := n4_; clear n0_ n1_ n2_ n3_ n4_; (try clear hb); (try clear hb2); (try clear hk); (try clear hi)))
      go_ret
      exact ⟨by first | rfl | (simp [errW_none, errW_some] <;> rfl) | (simp [*, errW_none, errW_some] <;> rfl), by repeat (first | (with_reducible first | exact HB.out | apply below_alloc | apply pw_below_drewN | apply below_drew1) | exact HB.out)⟩
  · rw [if_neg c5] at H
    have c5b0 : (t12009 == 0) = false := beq_eq_false_iff_ne.mpr c5
    have c5b1 : (t12009 != 0) = true := bne_iff_ne.mpr c5
    obtain rfl := Option.some.inj H
    go_enter Tryd.func11, Tryd.ntmps11
    go_wp2_with (first | ((with_reducible refine gate_callee (f := 16) rfl ?_); refine goesL_ (some 9) rfl rfl Tryd.func16 (by kernel_rfl) rfl #[] rfl (by (try simp only [List.map_toArray, List.map_cons, List.map_nil]); first | done | rfl | (simp only [List.length_drop, List.length_take]; rfl)) ?_; (with_reducible refine (tree_New.calls  t12001 _ A1.out).mono ?_); rintro e w60 ⟨v12002, rfl, ho0, hb⟩; refine ⟨_, rfl, ?_⟩; have n0_ := Aside0.mk (Kd.R_lower ho0 (below_size (by repeat (first | (with_reducible first | exact HB.out | apply below_alloc | apply pw_below_drewN | apply below_drew1) | exact HB.out)))); have n1_ := Aside0.mk (below_step (by repeat (first | (with_reducible first | exact HB.out | apply below_alloc | apply pw_below_drewN | apply below_drew1) | exact HB.out)) hb); clear HB; have HO12003 := n0_; have HB := n1_; clear n0_ n1_; (try clear hb); (try clear hb2); (try clear hk); (try clear hi); (try clear ho0)) | ((with_reducible refine gate_dst (N := 10) rfl ?_); refine Kd.R_lit (Kd.int .u32) _ 66 ?hg (N := 10) ?hd (xs := ([31] : List Int)) (inner := [.int .u32 31]) (ok := fun _ => True) (okp := fun _ => True) ?hr ?hp (fun _ hk => hk) trivial (Below.refl _ _) (Nat.le_refl _) (by simp) ?_; (case hd => rfl); (case hg => rfl); (case hr => first | (go_simp; done) | (go_simp; rfl)); (case hp => exact (Reps.one (show Kd.M (Kd.int .u32) _ _ _ 31 [.int .u32 31] from rfl) (Reps.none _ _))); intro v12005 w61 ho62 hb hg_ hnew_; clear hg_ hnew_; (first | rw [← Ny12004.out] at ho62 | (simp only [Int.reduceToNat] at ho62; rw [← Ny12004.out] at ho62)); have n0_ := Aside0.mk (Kd.R_elder' (by (with_reducible repeat (first | apply Kd.R_alloc | apply Kd.R_drewN | apply Kd.R_drew)); exact HO12003.out) (Kd.R_base ho62) hb); have n1_ := Aside0.mk (Kd.R_lower ho62 (below_size (by repeat (first | (with_reducible first | exact HB.out | apply below_alloc | apply pw_below_drewN | apply below_drew1) | exact HB.out)))); have n2_ := Aside0.mk (below_step (by repeat (first | (with_reducible first | exact HB.out | apply below_alloc | apply pw_below_drewN | apply below_drew1) | exact HB.out)) hb); clear HO12003; clear HB; have HO12003 := n0_; have HO12006 := n1_; have HB := n2_; clear n0_ n1_ n2_; clear hb ho62; obtain ⟨Ao63, co63, eo63⟩ := Kd.R_slice HO12003.out; subst eo63; obtain ⟨Ao64, co64, eo64⟩ := Kd.R_slice HO12006.out; subst eo64) | ((with_reducible refine gate_callee (f := 19) rfl ?_); refine goesL_ (some 11) rfl rfl Tryd.func19 (by kernel_rfl) rfl #[.slice Ao63 t12001.length co63, .int .i64 0, .string (⟨#[112, 99, 105]⟩ : ByteArray), .slice Ao64 y12004.length co64] rfl (by (try simp only [List.map_toArray, List.map_cons, List.map_nil]); first | done | rfl | (simp only [List.length_drop, List.length_take]; rfl)) ?_; (with_reducible refine (tree_Add.calls _ _ t12001 0 (⟨#[112, 99, 105]⟩ : ByteArray) _ _ y12004 t12007 t12008 t12009 _ ?side1 ?side2 ?side3 ?side4 A2.out).mono ?_); (case side1 => repeat (first | exact (Kd.R_reads' HO12003.out).2.2 | (with_reducible refine Kd.C_alloc ?_ _) | (with_reducible refine Kd.C_drewN ?_ _) | (with_reducible refine Kd.C_drew ?_))); (case side2 => exact (Kd.R_reads' HO12003.out).2.1); (case side3 => repeat (first | exact (Kd.R_reads' HO12006.out).2.2 | (with_reducible refine Kd.C_alloc ?_ _) | (with_reducible refine Kd.C_drewN ?_ _) | (with_reducible refine Kd.C_drew ?_))); (case side4 => exact (Kd.R_reads' HO12006.out).2.1); rintro e w65 ⟨v12010, rfl, ho0, hb⟩; refine ⟨_, rfl, ?_⟩; have n0_ := Aside0.mk (Kd.R_elder' (by (with_reducible repeat (first | apply Kd.R_alloc | apply Kd.R_drewN | apply Kd.R_drew)); exact HO12003.out) (Kd.R_base ho0) hb); have n1_ := Aside0.mk (Kd.R_below (by (with_reducible repeat (first | apply Kd.R_alloc | apply Kd.R_drewN | apply Kd.R_drew)); exact HO12006.out) hb); have n2_ := Aside0.mk (Kd.R_lower (Kd.R_new' (Kd.R_new' ho0 (Kd.R_lt (by (with_reducible repeat (first | apply Kd.R_alloc | apply Kd.R_drewN | apply Kd.R_drew)); exact HO12003.out))) (Kd.R_lt (by (with_reducible repeat (first | apply Kd.R_alloc | apply Kd.R_drewN | apply Kd.R_drew)); exact HO12006.out))) (below_size (by repeat (first | (with_reducible first | exact HB.out | apply below_alloc | apply pw_below_drewN | apply below_drew1) | exact HB.out)))); have n3_ := Aside0.mk (below_step (by repeat (first | (with_reducible first | exact HB.out | apply below_alloc | apply pw_below_drewN | apply below_drew1) | exact HB.out)) hb); clear HO12003; clear HO12006; clear HB; have HO12003 := n0_; have HO12006 := n1_; have HO12011 := n2_; have HB := n3_; clear n0_ n1_ n2_ n3_; (try clear hb); (try clear hb2); (try clear hk); (try clear hi); (try clear ho0); obtain ⟨Ao66, co66, eo66⟩ := Kd.R_slice HO12011.out; subst eo66) | ((with_reducible refine gate_callee (f := 19) rfl ?_); refine goesL_ (some 18) rfl rfl Tryd.func19 (by kernel_rfl) rfl #[.slice Ao66 t12007.length co66, .int .i64 t12008, .string (⟨#[100, 105, 115, 107]⟩ : ByteArray), .slice none 0 0] rfl (by (try simp only [List.map_toArray, List.map_cons, List.map_nil]); first | done | rfl | (simp only [List.length_drop, List.length_take]; rfl)) ?_; (refine (tree_Add.calls _ _ t12007 t12008 (⟨#[100, 105, 115, 107]⟩ : ByteArray) _ _ ([] : List Int) t12012 t12013 t12014 _ ?side1 ?side2 ?side3 ?side4 A3.out).mono ?_); (case side1 => repeat (first | exact (Kd.R_reads' HO12011.out).2.2 | (with_reducible refine Kd.C_alloc ?_ _) | (with_reducible refine Kd.C_drewN ?_ _) | (with_reducible refine Kd.C_drew ?_))); (case side2 => exact (Kd.R_reads' HO12011.out).2.1); (case side3 => exact Kd.C_nil _ _); (case side4 => exact Nat.le_refl _); rintro e w67 ⟨v12015, rfl, ho0, hb⟩; refine ⟨_, rfl, ?_⟩; have n0_ := Aside0.mk (Kd.R_elder' (by (with_reducible repeat (first | apply Kd.R_alloc | apply Kd.R_drewN | apply Kd.R_drew)); exact HO12003.out) (Kd.R_base ho0) hb); have n1_ := Aside0.mk (Kd.R_below (by (with_reducible repeat (first | apply Kd.R_alloc | apply Kd.R_drewN | apply Kd.R_drew)); exact HO12006.out) hb); have n2_ := Aside0.mk (Kd.R_elder' (by (with_reducible repeat (first | apply Kd.R_alloc | apply Kd.R_drewN | apply Kd.R_drew)); exact HO12011.out) (Kd.R_base ho0) hb); have n3_ := Aside0.mk (Kd.R_lower (Kd.R_new' (Kd.R_new' (Kd.R_new' ho0 (Kd.R_lt (by (with_reducible repeat (first | apply Kd.R_alloc | apply Kd.R_drewN | apply Kd.R_drew)); exact HO12003.out))) (Kd.R_lt (by (with_reducible repeat (first | apply Kd.R_alloc | apply Kd.R_drewN | apply Kd.R_drew)); exact HO12006.out))) (Kd.R_lt (by (with_reducible repeat (first | apply Kd.R_alloc | apply Kd.R_drewN | apply Kd.R_drew)); exact HO12011.out))) (below_size (by repeat (first | (with_reducible first | exact HB.out | apply below_alloc | apply pw_below_drewN | apply below_drew1) | exact HB.out)))); have n4_ := Aside0.mk (below_step (by repeat (first | (with_reducible first | exact HB.out | apply below_alloc | apply pw_below_drewN | apply below_drew1) | exact HB.out)) hb); clear HO12003; clear HO12006; clear HO12011; clear HB; have HO12003 := n0_; have HO12006 := n1_; have HO12011 := n2_; have HO12016 := n3_; have HB := n4_; clear n0_ n1_ n2_ n3_ n4_; (try clear hb); (try clear hb2); (try clear hk); (try clear hi); (try clear ho0); obtain ⟨Ao68, co68, eo68⟩ := Kd.R_slice HO12016.out; subst eo68) | ((with_reducible refine gate_callee (f := 23) rfl ?_); refine goesL_ (some 25) rfl rfl Tryd.func23 (by kernel_rfl) rfl #[.slice Ao68 t12012.length co68, .int .i64 t12013] rfl (by (try simp only [List.map_toArray, List.map_cons, List.map_nil]); first | done | rfl | (simp only [List.length_drop, List.length_take]; rfl)) ?_; (with_reducible refine (tree_Path.calls _ _ t12012 t12013 t12017 t12018 _ (QB.Tabs.below ht (by repeat (first | (with_reducible first | exact HB.out | apply below_alloc | apply pw_below_drewN | apply below_drew1 | refine below_set ?_ (Aside0.out (by assumption))) | exact HB.out))) ?side1 ?side2 A4.out).mono ?_); (case side1 => repeat (first | exact (Kd.R_reads' HO12016.out).2.2 | (with_reducible refine Kd.C_alloc ?_ _) | (with_reducible refine Kd.C_drewN ?_ _) | (with_reducible refine Kd.C_drew ?_))); (case side2 => exact (Kd.R_reads' HO12016.out).2.1); rintro e w69 ⟨rfl, hb⟩; refine ⟨_, rfl, ?_⟩; have n0_ := Aside0.mk (Kd.R_below (by (with_reducible repeat (first | apply Kd.R_alloc | apply Kd.R_drewN | apply Kd.R_drew)); exact HO12003.out) hb); have n1_ := Aside0.mk (Kd.R_below (by (with_reducible repeat (first | apply Kd.R_alloc | apply Kd.R_drewN | apply Kd.R_drew)); exact HO12006.out) hb); have n2_ := Aside0.mk (Kd.R_below (by (with_reducible repeat (first | apply Kd.R_alloc | apply Kd.R_drewN | apply Kd.R_drew)); exact HO12011.out) hb); have n3_ := Aside0.mk (Kd.R_below (by (with_reducible repeat (first | apply Kd.R_alloc | apply Kd.R_drewN | apply Kd.R_drew)); exact HO12016.out) hb); have n4_ := Aside0.mk (below_step (by repeat (first | (with_reducible first | exact HB.out | apply below_alloc | apply pw_below_drewN | apply below_drew1) | exact HB.out)) hb); clear HO12003; clear HO12006; clear HO12011; clear HO12016; clear HB; have HO12003 := n0_; have HO12006 := n1_; have HO12011 := n2_; have HO12016 := n3_; have HB := n4_; clear n0_ n1_ n2_ n3_ n4_; (try clear hb); (try clear hb2); (try clear hk); (try clear hi)))
    go_ret
    exact ⟨by first | rfl | (simp [errW_none, errW_some] <;> rfl) | (simp [*, errW_none, errW_some] <;> rfl), by repeat (first | (with_reducible first | exact HB.out | apply below_alloc | apply pw_below_drewN | apply below_drew1) | exact HB.out)⟩

end Go.Proofs.YtnalcjgefbelnaaDoor.Q
end
section
set_option linter.unusedSimpArgs false
set_option linter.unusedVariables false
namespace Go.Proofs.YtnalcjgefbelnaaDoor.Q
open Go.RowKit Go.Proofs.YtnalcjgefbelnaaDoorW.PrintWords Go.Proofs.YtnalcjgefbelnaaDoorW.PrintLast
def aT1 : List S44 := [⟨⟨#[]⟩, [], -1, [], []⟩, ⟨⟨#[112, 99, 105]⟩, [31], 0, [], []⟩]
def aT2 : List S44 := [⟨⟨#[]⟩, [], -1, [], []⟩, ⟨⟨#[112, 99, 105]⟩, [31], 0, [], []⟩, ⟨⟨#[100, 105, 115, 107]⟩, [], 1, [], []⟩]
def aS : List S49 := [⟨⟨#[112, 99, 105]⟩, [31], ⟨#[]⟩⟩, ⟨⟨#[100, 105, 115, 107]⟩, [], ⟨#[]⟩⟩]
theorem units31 : unitsL [31] = [49, 102] := by
  rw [units_one]
  unfold shL
  rw [showL_big (by decide) (by decide), showL_small (by decide)]
  rfl
theorem pathAS : pathL aS = [47, 112, 99, 105, 64, 49, 102, 47, 100, 105, 115, 107] := by
  show stepB ⟨⟨#[112, 99, 105]⟩, [31], ⟨#[]⟩⟩ ++ (stepB ⟨⟨#[100, 105, 115, 107]⟩, [], ⟨#[]⟩⟩ ++ []) = _
  unfold stepB
  dsimp only
  rw [units31]
  rfl
theorem showAS : showP aS = (⟨#[47, 112, 99, 105, 64, 49, 102, 47, 100, 105, 115, 107]⟩, 0) := by
  unfold showP
  rw [pathAS, if_neg (by decide), if_pos (by kernel_rfl), if_neg (by decide)]
theorem okAS : pathOk aS = true := by
  unfold pathOk
  rw [pathAS]
  kernel_rfl
theorem path_alive : tree_Path.f aT2 2 = some (⟨#[47, 112, 99, 105, 64, 49, 102, 47, 100, 105, 115, 107]⟩, 0) := by
  unfold tree_Path.f
  rw [show tree_check.f aT2 2 = some 0 by kernel_rfl, Option.bind_some, if_pos rfl, show (upF aT2 (2 : Int).toNat 2).reverse = aS by kernel_rfl, okAS, if_pos rfl, showAS]
theorem alive08_f : tinderlaw08_alive.f = some true := by
  unfold tinderlaw08_alive.f
  rw [show tree_New.f = some [(⟨⟨#[]⟩, [], -1, [], []⟩ : S44)] from rfl, Option.bind_some, show tree_Add.f [(⟨⟨#[]⟩, [], -1, [], []⟩ : S44)] 0 (⟨#[112, 99, 105]⟩ : ByteArray) [31] = some (aT1, 1, 0) by kernel_rfl, Option.bind_some]
  dsimp only
  rw [show tree_Add.f aT1 1 (⟨#[100, 105, 115, 107]⟩ : ByteArray) [] = some (aT2, 2, 0) by kernel_rfl, Option.bind_some]
  dsimp only
  rw [path_alive, Option.bind_some]
  kernel_rfl
end Go.Proofs.YtnalcjgefbelnaaDoor.Q
end
section
set_option linter.unusedSimpArgs false
set_option linter.unusedVariables false
namespace Go.Proofs.YtnalcjgefbelnaaDoor.Q
open Go.RowKit Go.Shelf Go.Proofs.YtnalcjgefbelnaaDoorW.PrintWords Go.Proofs.YtnalcjgefbelnaaDoorW.PrintLast
def cuts (c : UInt8) : List UInt8 → List (List UInt8)
  | [] => [[]]
  | a :: l => if a = c then [] :: cuts c l else match cuts c l with | p :: ps => (a :: p) :: ps | [] => [[a]]
def bOf (p : List UInt8) : ByteArray := ⟨p.toArray⟩
theorem bOf_size (p : List UInt8) : (bOf p).size = p.length := by
  show p.toArray.size = _
  simp
def pcAt (L : List (List UInt8)) (k : Nat) : ByteArray := bOf (L.getD k [])
def okU (p : List UInt8) : Bool := decide ((parF (bOf p) 16).2 = 0) && !decide (bt (bOf p) 0 = 45) && decide (p.length ≤ 8)
def valU (p : List UInt8) : Int := (parF (bOf p) 16).1
def unitF (s : ByteArray) : List Int × Int := if (cuts 44 s.data.toList).all okU = true then (if 4 < (cuts 44 s.data.toList).length then ([], 3) else ((cuts 44 s.data.toList).map valU, 0)) else ([], 15)
theorem bt_idx (s : ByteArray) (h : 0 < s.size) : ((s[0]'h).toNat : Int) = bt s 0 := by
  unfold bt
  rw [dif_pos (by simpa using h)]
  rfl
theorem parF_pos {s : ByteArray} (h : (parF s 16).2 = 0) : 0 < s.size := by
  rcases Nat.eq_zero_or_pos s.size with h0 | h0
  · exfalso
    have e : s = ⟨#[]⟩ := by
      apply ByteArray.ext
      apply Array.ext'
      exact List.eq_nil_of_length_eq_zero (by rw [Array.length_toList]; exact h0)
    rw [e] at h
    exact absurd h (by decide)
  · exact h0
def ixC (c : UInt8) (s : ByteArray) : Int := Lib.indexByte s.data.toList c
def headC (c : UInt8) (s : ByteArray) : ByteArray := if 0 ≤ ixC c s then s.extract 0 (ixC c s).toNat else s
def tailC (c : UInt8) (s : ByteArray) : ByteArray := if 0 ≤ ixC c s then s.extract (ixC c s + 1).toNat s.size else ⟨#[]⟩
def stepF (s : ByteArray) : S49 × Bool :=
  if namedF (headC 64 (headC 58 s)) = true then
    (if 0 ≤ ixC 64 (headC 58 s) then (if (unitF (tailC 64 (headC 58 s))).2 = 0 then (⟨headC 64 (headC 58 s), (unitF (tailC 64 (headC 58 s))).1, tailC 58 s⟩, true) else (⟨⟨#[]⟩, [], ⟨#[]⟩⟩, false))
    else (⟨headC 64 (headC 58 s), [], tailC 58 s⟩, true))
  else (⟨⟨#[]⟩, [], ⟨#[]⟩⟩, false)
theorem tailC_size (c : UInt8) (s : ByteArray) : (tailC c s).size ≤ s.size := by
  unfold tailC
  split
  · rw [ByteArray.size_extract]; omega
  · exact Nat.zero_le _
def stepV (p : List UInt8) : S49 := (stepF (bOf p)).1
def okS (p : List UInt8) : Bool := (stepF (bOf p)).2
def parseF (s : ByteArray) : List S49 × Int :=
  if 256 < s.size then ([], 3) else
  match s.data.toList with
  | [] => ([], 15)
  | a :: r => if a = 47 then (if r = [] then ([], 0) else if (cuts 47 r).all okS = true then ((cuts 47 r).map stepV, 0) else ([], 15)) else ([], 15)
end Go.Proofs.YtnalcjgefbelnaaDoor.Q
end
section
set_option linter.unusedSimpArgs false
set_option linter.unusedVariables false
namespace Go.Proofs.YtnalcjgefbelnaaDoor.Q
open Go.RowKit Go.Proofs.YtnalcjgefbelnaaDoorW.PrintWords Go.Proofs.YtnalcjgefbelnaaDoorW.PrintLast Go.Proofs.YtnalcjgefbelnaaDoorW.PrintMore
attribute [local go_sem] max2_int min2_int max_two min_two max_three min_three max_four min_four
theorem cuts_at (c : UInt8) : ∀ (m : Nat) (l : List UInt8), (∀ j, j < m → l[j]? ≠ some c) → l[m]? = some c → cuts c l = l.take m :: cuts c (l.drop (m + 1))
  | _, [], _, h => by simp at h
  | 0, a :: l, _, h => by
    simp at h
    rw [cuts, if_pos h]
    rfl
  | m + 1, a :: l, h, hm => by
    have ha : ¬ a = c := fun e => h 0 (by omega) (by simp [e])
    rw [cuts, if_neg ha, cuts_at c m l (fun j hj => by have := h (j + 1) (by omega); simpa using this) (by simpa using hm)]
    rfl
theorem cuts_end (c : UInt8) : ∀ (l : List UInt8), (∀ j : Nat, l[j]? ≠ some c) → cuts c l = [l]
  | [], _ => rfl
  | a :: l, h => by
    have ha : ¬ a = c := fun e => h 0 (by simp [e])
    rw [cuts, if_neg ha, cuts_end c l (fun j => by have := h (j + 1); rwa [List.getElem?_cons_succ] at this)]
def unitG : List (List UInt8) → List Int → Nat → List Int × Int
  | [], out, n => if 4 < n then ([], 3) else (out, 0)
  | p :: ps, out, n => if okU p = true then unitG ps (if n + 1 ≤ 4 then out ++ [valU p] else out) (n + 1) else ([], 15)
theorem unitG_eq : ∀ (ps : List (List UInt8)) (out : List Int) (n : Nat), (out.length = n ∧ n ≤ 4 ∨ 4 < n) →
    unitG ps out n = if ps.all okU = true then (if 4 < n + ps.length then ([], 3) else (out ++ ps.map valU, 0)) else ([], 15)
  | [], out, n, _ => by simp [unitG]
  | p :: ps, out, n, h => by
    rw [unitG, List.all_cons]
    by_cases hp : okU p = true
    · rw [if_pos hp, unitG_eq ps _ (n + 1) (by
        by_cases h4 : n + 1 ≤ 4
        · rw [if_pos h4, List.length_append, List.length_singleton]; omega
        · omega), hp, Bool.true_and, List.length_cons]
      have e : n + 1 + ps.length = n + (ps.length + 1) := by omega
      rw [e]
      by_cases ha : ps.all okU = true
      · rw [if_pos ha, if_pos ha]
        by_cases hl : 4 < n + (ps.length + 1)
        · rw [if_pos hl, if_pos hl]
        · rw [if_neg hl, if_neg hl, if_pos (by omega), List.append_assoc]
          rfl
      · rw [if_neg ha, if_neg ha]
    · rw [if_neg hp]
      have : okU p = false := by simpa using hp
      rw [this, Bool.false_and, if_neg (by decide)]
theorem unitF_G (s : ByteArray) : unitF s = unitG (cuts 44 s.data.toList) [] 0 := by
  rw [unitG_eq (cuts 44 s.data.toList) [] 0 (.inl ⟨rfl, by omega⟩)]
  unfold unitF
  rw [Nat.zero_add]
  rfl
theorem okU_of (q : ByteArray) (p : List UInt8) (h : q = bOf p) : okU p = (decide ((parF q 16).2 = 0) && !decide (bt q 0 = 45) && decide (q.size ≤ 8)) := by
  subst h
  unfold okU
  rw [bOf_size]
theorem valU_of (q : ByteArray) (p : List UInt8) (h : q = bOf p) : valU p = (parF q 16).1 := by
  subst h
  rfl
theorem byte_bt (s : ByteArray) (j : Nat) (h : j < s.size) : s.data.toList[j]? = some 44 ↔ bt s (j : Int) = 44 := by
  unfold bt
  rw [dif_pos (show ((j : Int)).toNat < s.size from h)]
  rw [List.getElem?_eq_getElem (by rw [Array.length_toList]; exact h), Option.some.injEq, Array.getElem_toList]
  show s.data[j] = 44 ↔ ((s.data[j]).toNat : Int) = 44
  constructor
  · intro e; rw [e]; rfl
  · intro e
    apply UInt8.toNat_inj.1
    have h3 : (44 : UInt8).toNat = 44 := rfl
    omega
theorem extract_bOf (s : ByteArray) (a b : Nat) : s.extract a b = bOf ((s.data.toList.drop a).take (b - a)) := by
  apply ByteArray.ext
  apply Array.ext'
  rw [ByteArray.data_extract, Array.toList_extract]
  unfold bOf
  rw [List.extract_eq_take_drop]
theorem info66u : (Tryd.prog.info? 66).map (fun i => (i.zero, i.size, i.bytes)) = some (some (.int .u32 0), 1, 4) := by kernel_rfl
set_option maxRecDepth 100000 in
set_option maxHeartbeats 4000000 in
theorem refUnit_calls (s : ByteArray) (w : World) (hs : s.size ≤ 1000000000) :
    Calls Tryd.prog 76 #[.string s] w fun e w' => ∃ v, e = .returned (.tuple #[v, .int .i64 (unitF s).2]) ∧ Kd.R (Kd.int .u32) 66 w' w.heap.size (fun _ => True) v (unitF s).1 ∧ Below w.heap.size w w' := by
  obtain ⟨R, hR⟩ : ∃ R, R = unitF s := ⟨_, rfl⟩
  rw [← hR]
  rw [unitF_G] at hR
  obtain ⟨B, hB⟩ : ∃ B, B = s.data.toList := ⟨_, rfl⟩
  have hBl : B.length = s.size := by rw [hB]; exact Array.length_toList
  rw [← hB] at hR
  have HRr := Aside0.mk hR
  have HBb := Aside0.mk hB
  have HBl := Aside0.mk hBl
  have HS := Aside0.mk hs
  have HB0 := Aside0.mk (Below.refl w.heap.size w)
  have HP := Aside0.mk (show ∀ (q : ByteArray) (X : World), q.size ≤ s.size → Calls Tryd.prog 85 #[.string q, .int .u32 16] X (fun e w' => e = .returned (.tuple #[.int .u32 (parF q 16).1, .int .i64 (parF q 16).2]) ∧ Drawn0 X w') from fun q X hq =>
      tinderref02_Parse.calls 1000000100 q 16 _ _ X (by rw [refparse_eq _ _ _ (by omega) (by omega)]))
  clear hs hR hB hBl
  go_enter Tryd.func76, Tryd.ntmps76
  go_wp2
  go_loopg [4, 5, 6, 7] (s.size + 1) (fun kq v4 v5 v6 v7 w' => ∃ (out : List Int) (fr n i : Int), v5 = .int .i64 fr ∧ v6 = .int .i64 n ∧ v7 = .int .i64 i ∧ Aside0 (0 ≤ fr ∧ fr ≤ i ∧ i + kq = s.size + 1 ∧ 0 ≤ n ∧ n ≤ i ∧ out.length ≤ i) ∧ Aside0 (∀ j : Nat, fr ≤ (j : Int) → (j : Int) < i → B[j]? ≠ some 44) ∧ Aside0 (if i ≤ (s.size : Int) then unitG (cuts 44 (B.drop fr.toNat)) out n.toNat = R else unitG [] out n.toNat = R) ∧ Aside0 (Kd.R (Kd.int .u32) 66 w' w.heap.size (fun _ => True) v4 out) ∧ Aside0 (Below w.heap.size w w'))
  case atStart =>
    refine ⟨[], 0, 0, 0, rfl, rfl, rfl, ⟨by omega, by omega, by omega, by omega, by omega, by simp⟩, ⟨fun j h1 h2 => by omega⟩, ⟨?_⟩, ⟨Kd.R_nil _ _ _ _ _⟩, HB0⟩
    rw [if_pos (by omega)]
    exact HRr.out.symm
  case round =>
    obtain ⟨out, fr, n, i, rfl, rfl, rfl, HI, HN, HM, HO, HB⟩ := hrel
    cases gk with
    | zero =>
      have hi := HI.out
      have hm := HM.out
      rw [if_neg (by omega)] at hm
      have hlt : decide (i ≤ (s.size : Int)) = false := decide_eq_false (by omega)
      unfold unitG at hm
      by_cases h4 : 4 < n.toNat
      · rw [if_pos h4] at hm
        have d4 : decide (4 < n) = true := decide_eq_true (by omega)
        have HE := Aside0.mk hm.symm
        clear hi hm h4 HI HN HM
        go_wp2
        go_ret2
        exact ⟨_, by rw [HE.out]; rfl, by rw [HE.out]; exact Kd.R_nil _ _ _ _ _, HB.out⟩
      · rw [if_neg h4] at hm
        have d4 : decide (4 < n) = false := decide_eq_false (by omega)
        have HE := Aside0.mk hm.symm
        clear hi hm h4 HI HN HM
        go_wp2
        go_ret2
        exact ⟨_, by rw [HE.out]; rfl, by rw [HE.out]; exact HO.out, HB.out⟩
    | succ k1 =>
      have hi := HI.out
      have hm := HM.out
      have hl := HS.out
      have hbl := HBl.out
      rw [if_pos (by omega)] at hm
      have hlt : decide (i ≤ (s.size : Int)) = true := decide_eq_true (by omega)
      have hw : IntKind.i64.wrap (i + 1) = i + 1 := (i64_w _).trans (by unfold wrap64; omega)
      have hw2 : wrap64 (i + 1) = i + 1 := by unfold wrap64; omega
      by_cases hb : i < (s.size : Int)
      · have d1 : decide (i < (s.size : Int)) = true := decide_eq_true hb
        have p1 : (0 ≤ i) = True := eq_true (by omega)
        have p1b : decide (0 ≤ i) = true := decide_eq_true (by omega)
        have p2b : (i < (s.size : Int)) = True := eq_true hb
        have hbi := bt_at s i
        by_cases hc : bt s i = 44
        · have d2 : (bt s i != 44) = false := bne_eq_false_iff_eq.2 hc
          have hcut : cuts 44 (B.drop fr.toNat) = (B.drop fr.toNat).take (i.toNat - fr.toNat) :: cuts 44 (B.drop (i + 1).toNat) := by
            rw [cuts_at 44 (i.toNat - fr.toNat) _ (fun j hj e => by
              rw [List.getElem?_drop] at e
              exact HN.out (fr.toNat + j) (by omega) (by omega) e) (by
              rw [List.getElem?_drop, show fr.toNat + (i.toNat - fr.toNat) = i.toNat by omega, HBb.out]
              exact (byte_bt s i.toNat (by omega)).2 (by rw [show ((i.toNat : Nat) : Int) = i by omega]; exact hc)), List.drop_drop, show fr.toNat + (i.toNat - fr.toNat + 1) = (i + 1).toNat by omega]
          rw [hcut, unitG] at hm
          obtain ⟨q, hq⟩ : ∃ q, q = s.extract fr.toNat i.toNat := ⟨_, rfl⟩
          have hqb : q = bOf ((B.drop fr.toNat).take (i.toNat - fr.toNat)) := by rw [hq, extract_bOf, HBb.out]
          rw [okU_of q _ hqb, valU_of q _ hqb] at hm
          have hqs : q.size ≤ s.size := by rw [hqb, bOf_size, List.length_take, List.length_drop]; omega
          have HPq := Aside0.mk (HP.out q)
          have HQS := Aside0.mk hqs
          have HQ := Aside0.mk hq
          obtain ⟨x, hx⟩ : ∃ x, x = (parF q 16).1 := ⟨_, rfl⟩
          obtain ⟨e0, he0⟩ : ∃ e0, e0 = (parF q 16).2 := ⟨_, rfl⟩
          rw [← hx, ← he0] at HPq hm
          have hempty : q.size < 1 → e0 ≠ 0 := fun h1 h2 => by
            have := parF_pos (he0 ▸ h2)
            omega
          have q1 : (0 ≤ fr) = True := eq_true (by omega)
          have q2 : (fr ≤ i) = True := eq_true (by omega)
          have q3 : (i ≤ (s.size : Int)) = True := eq_true (by omega)
          have q1b : decide (0 ≤ fr) = true := decide_eq_true (by omega)
          have q2b : decide (fr ≤ i) = true := decide_eq_true (by omega)
          by_cases s1 : q.size < 1
          · have ds1 : decide ((q.size : Int) < 1) = true := decide_eq_true (by omega)
            have HE := Aside0.mk (show R = ([], 15) by rw [← hm, if_neg (by have := hempty s1; simp [this])])
            clear hi hm hl hbl hqb hqs hx he0 hempty hcut s1
            go_upto_region 8 with (fail)
            rw [← hq]
            clear hq
            go_wp2
            go_ret2
            exact ⟨_, by rw [HE.out]; rfl, by rw [HE.out]; exact Kd.R_nil _ _ _ _ _, HB.out⟩
          have ds1 : decide ((q.size : Int) < 1) = false := decide_eq_false (by omega)
          by_cases s8 : 8 < q.size
          · have ds8 : decide (8 < (q.size : Int)) = true := decide_eq_true (by omega)
            have HE := Aside0.mk (show R = ([], 15) by rw [← hm, if_neg (by have : ¬ q.size ≤ 8 := by omega
                                                                            simp [this])])
            clear hi hm hl hbl hqb hqs hx he0 hempty hcut s1 s8
            go_upto_region 8 with (fail)
            rw [← hq]
            clear hq
            go_wp2
            go_ret2
            exact ⟨_, by rw [HE.out]; rfl, by rw [HE.out]; exact Kd.R_nil _ _ _ _ _, HB.out⟩
          have ds8 : decide (8 < (q.size : Int)) = false := decide_eq_false (by omega)
          have hz0 : decide ((0 : Int) < (q.size : Int)) = true := decide_eq_true (by omega)
          have hz1 : (0 < (q.size : Int)) = True := eq_true (by omega)
          have hz2 : (0 < q.size) = True := eq_true (by omega)
          have hpos : 0 < q.size := by omega
          have hbt := bt_idx q hpos
          by_cases s45 : bt q 0 = 45
          · have ds45 : (((q[0]'hpos).toNat : Int) == 45) = true := by rw [hbt]; exact beq_iff_eq.2 s45
            have HE := Aside0.mk (show R = ([], 15) by rw [← hm, if_neg (by simp [s45])])
            clear hi hm hl hbl hqb hqs hx he0 hempty hcut s1 s8 s45 hbt
            go_upto_region 8 with (fail)
            rw [← hq]
            clear hq
            go_wp2
            go_ret2
            exact ⟨_, by rw [HE.out]; rfl, by rw [HE.out]; exact Kd.R_nil _ _ _ _ _, HB.out⟩
          have ds45 : (((q[0]'hpos).toNat : Int) == 45) = false := by rw [hbt]; exact beq_eq_false_iff_ne.2 s45
          by_cases hz : e0 = 0
          · have de : (e0 != 0) = false := bne_eq_false_iff_eq.2 hz
            have hm2 := hm
            rw [if_pos (by simp [hz, s45]; omega)] at hm2
            have hwn : IntKind.i64.wrap (n + 1) = n + 1 := (i64_w _).trans (by unfold wrap64; omega)
            have hwn2 : wrap64 (n + 1) = n + 1 := by unfold wrap64; omega
            by_cases h4 : n + 1 ≤ 4
            · have d4 : decide (n + 1 ≤ 4) = true := decide_eq_true h4
              rw [if_pos (by omega)] at hm2
              have HNX := Aside0.mk (show if i + 1 ≤ (s.size : Int) then unitG (cuts 44 (B.drop (i + 1).toNat)) (out ++ [x]) (n + 1).toNat = R else unitG [] (out ++ [x]) (n + 1).toNat = R by
                rw [show (n + 1).toNat = n.toNat + 1 by omega]
                rw [if_pos (by omega)]
                exact hm2)
              have HAL := Aside0.mk (show out.length ≤ 1000000000 by omega)
              clear hi hm hm2 hl hbl hqb hqs hx he0 hempty hcut s1 s8 s45 hz h4 hbt
              go_upto_region 8 with (fail)
              rw [← hq]
              clear hq
              go_wp2_with (first
                | (go_at_call 85; (with_reducible refine (HPq.out _ HQS.out).mono ?_); rintro e w2 ⟨rfl, hd⟩; have HB2 := Aside0.mk (below_step HB.out hd.below); have HO2 := Aside0.mk (Kd.R_below HO.out hd.below); clear hd)
                | ((with_reducible refine gate_builtin (b := .append) (xs := #[.tmp 57, .tmp 59]) rfl ?_); at_builtin; refine Kd.R_append (Kd.int .u32) (w0 := w) w.heap.size rfl (.tmp 57) (.tmp 59) 31 66 (.int .u32 0) 4 rfl Tryd.underlying31 info66u rfl (by decide) (by omega) _ out x [.int .u32 x] (fun _ => True) (fun _ => False) rfl rfl ?aP (fun _ hk => hk.elim) ?aF ?aO ?aB ?aS ?aL ?_; (case aP => exact rfl); (case aB => exact HB2.out); (case aF => exact (fun _ _ => trivial)); (case aO => exact HO2.out); (case aS => exact HB2.out.size); (case aL => have := HAL.out; omega); intro v1 w1 ho hb hg hat; have HO3 := Aside0.mk ho; have HB3 := Aside0.mk hb; clear ho hb hg hat))
              go_roundg k1
              case measure => omega
              case rel =>
                have hi := HI.out
                exact ⟨out ++ [x], i + 1, n + 1, i + 1, rfl, rfl, rfl, ⟨by omega, by omega, by omega, by omega, by omega, by rw [List.length_append, List.length_singleton]; omega⟩, ⟨fun j h1 h2 => by omega⟩, HNX, HO3, HB3⟩
            · have d4 : decide (n + 1 ≤ 4) = false := decide_eq_false h4
              rw [if_neg (by omega)] at hm2
              have HNX := Aside0.mk (show if i + 1 ≤ (s.size : Int) then unitG (cuts 44 (B.drop (i + 1).toNat)) out (n + 1).toNat = R else unitG [] out (n + 1).toNat = R by
                rw [show (n + 1).toNat = n.toNat + 1 by omega]
                rw [if_pos (by omega)]
                exact hm2)
              clear hi hm hm2 hl hbl hqb hqs hx he0 hempty hcut s1 s8 s45 hz h4 hbt
              go_upto_region 8 with (fail)
              rw [← hq]
              clear hq
              go_wp2_with (first
                | (go_at_call 85; (with_reducible refine (HPq.out _ HQS.out).mono ?_); rintro e w2 ⟨rfl, hd⟩; have HB2 := Aside0.mk (below_step HB.out hd.below); have HO2 := Aside0.mk (Kd.R_below HO.out hd.below); clear hd))
              go_roundg k1
              case measure => omega
              case rel =>
                have hi := HI.out
                exact ⟨out, i + 1, n + 1, i + 1, rfl, rfl, rfl, ⟨by omega, by omega, by omega, by omega, by omega, by omega⟩, ⟨fun j h1 h2 => by omega⟩, HNX, HO2, HB2⟩
          · have de : (e0 != 0) = true := bne_iff_ne.2 hz
            have HE := Aside0.mk (show R = ([], 15) by rw [← hm, if_neg (by simp [hz])])
            clear hi hm hl hbl hqb hqs hx he0 hempty hcut s1 s8 s45 hz hbt
            go_upto_region 8 with (fail)
            rw [← hq]
            clear hq
            go_wp2_with (first
              | (go_at_call 85; (with_reducible refine (HPq.out _ HQS.out).mono ?_); rintro e w2 ⟨rfl, hd⟩; have HB2 := Aside0.mk (below_step HB.out hd.below); clear hd))
            go_ret2
            exact ⟨_, by rw [HE.out]; rfl, by rw [HE.out]; exact Kd.R_nil _ _ _ _ _, HB2.out⟩
        · have d2 : (bt s i != 44) = true := bne_iff_ne.2 hc
          have HNN := Aside0.mk (show ∀ j : Nat, fr ≤ (j : Int) → (j : Int) < i + 1 → B[j]? ≠ some 44 from fun j h1 h2 e => by
            by_cases hj : (j : Int) < i
            · exact HN.out j h1 hj e
            · rw [HBb.out] at e
              exact hc (by rw [show i = (j : Int) by omega]; exact (byte_bt s j (by omega)).1 e))
          have HM2 := Aside0.mk (show if i + 1 ≤ (s.size : Int) then unitG (cuts 44 (B.drop fr.toNat)) out n.toNat = R else unitG [] out n.toNat = R by rw [if_pos (by omega)]; exact hm)
          clear hi hm hl hbl hb hc
          go_wp2
          go_roundg k1
          case measure => omega
          case rel =>
            have hi := HI.out
            exact ⟨out, fr, n, i + 1, rfl, rfl, rfl, ⟨by omega, by omega, by omega, by omega, by omega, by omega⟩, HNN, HM2, HO, HB⟩
      · have d1 : decide (i < (s.size : Int)) = false := decide_eq_false hb
        have hcut : cuts 44 (B.drop fr.toNat) = (B.drop fr.toNat).take (i.toNat - fr.toNat) :: [] := by
          have hie : i = (s.size : Int) := by omega
          rw [cuts_end 44 _ (fun j e => by
            rw [List.getElem?_drop] at e
            have hlt2 := (List.getElem?_eq_some_iff.1 e).1
            exact HN.out (fr.toNat + j) (by omega) (by omega) e)]
          rw [List.take_of_length_le (by rw [List.length_drop]; omega)]
        rw [hcut, unitG] at hm
        obtain ⟨q, hq⟩ : ∃ q, q = s.extract fr.toNat i.toNat := ⟨_, rfl⟩
        have hqb : q = bOf ((B.drop fr.toNat).take (i.toNat - fr.toNat)) := by rw [hq, extract_bOf, HBb.out]
        rw [okU_of q _ hqb, valU_of q _ hqb] at hm
        have hqs : q.size ≤ s.size := by rw [hqb, bOf_size, List.length_take, List.length_drop]; omega
        have HPq := Aside0.mk (HP.out q)
        have HQS := Aside0.mk hqs
        have HQ := Aside0.mk hq
        obtain ⟨x, hx⟩ : ∃ x, x = (parF q 16).1 := ⟨_, rfl⟩
        obtain ⟨e0, he0⟩ : ∃ e0, e0 = (parF q 16).2 := ⟨_, rfl⟩
        rw [← hx, ← he0] at HPq hm
        have hempty : q.size < 1 → e0 ≠ 0 := fun h1 h2 => by
          have := parF_pos (he0 ▸ h2)
          omega
        have q1 : (0 ≤ fr) = True := eq_true (by omega)
        have q2 : (fr ≤ i) = True := eq_true (by omega)
        have q3 : (i ≤ (s.size : Int)) = True := eq_true (by omega)
        have q1b : decide (0 ≤ fr) = true := decide_eq_true (by omega)
        have q2b : decide (fr ≤ i) = true := decide_eq_true (by omega)
        by_cases s1 : q.size < 1
        · have ds1 : decide ((q.size : Int) < 1) = true := decide_eq_true (by omega)
          have HE := Aside0.mk (show R = ([], 15) by rw [← hm, if_neg (by have := hempty s1; simp [this])])
          clear hi hm hl hbl hqb hqs hx he0 hempty hcut s1
          go_upto_region 8 with (fail)
          rw [← hq]
          clear hq
          go_wp2
          go_ret2
          exact ⟨_, by rw [HE.out]; rfl, by rw [HE.out]; exact Kd.R_nil _ _ _ _ _, HB.out⟩
        have ds1 : decide ((q.size : Int) < 1) = false := decide_eq_false (by omega)
        by_cases s8 : 8 < q.size
        · have ds8 : decide (8 < (q.size : Int)) = true := decide_eq_true (by omega)
          have HE := Aside0.mk (show R = ([], 15) by rw [← hm, if_neg (by have : ¬ q.size ≤ 8 := by omega
                                                                          simp [this])])
          clear hi hm hl hbl hqb hqs hx he0 hempty hcut s1 s8
          go_upto_region 8 with (fail)
          rw [← hq]
          clear hq
          go_wp2
          go_ret2
          exact ⟨_, by rw [HE.out]; rfl, by rw [HE.out]; exact Kd.R_nil _ _ _ _ _, HB.out⟩
        have ds8 : decide (8 < (q.size : Int)) = false := decide_eq_false (by omega)
        have hz0 : decide ((0 : Int) < (q.size : Int)) = true := decide_eq_true (by omega)
        have hz1 : (0 < (q.size : Int)) = True := eq_true (by omega)
        have hz2 : (0 < q.size) = True := eq_true (by omega)
        have hpos : 0 < q.size := by omega
        have hbt := bt_idx q hpos
        by_cases s45 : bt q 0 = 45
        · have ds45 : (((q[0]'hpos).toNat : Int) == 45) = true := by rw [hbt]; exact beq_iff_eq.2 s45
          have HE := Aside0.mk (show R = ([], 15) by rw [← hm, if_neg (by simp [s45])])
          clear hi hm hl hbl hqb hqs hx he0 hempty hcut s1 s8 s45 hbt
          go_upto_region 8 with (fail)
          rw [← hq]
          clear hq
          go_wp2
          go_ret2
          exact ⟨_, by rw [HE.out]; rfl, by rw [HE.out]; exact Kd.R_nil _ _ _ _ _, HB.out⟩
        have ds45 : (((q[0]'hpos).toNat : Int) == 45) = false := by rw [hbt]; exact beq_eq_false_iff_ne.2 s45
        by_cases hz : e0 = 0
        · have de : (e0 != 0) = false := bne_eq_false_iff_eq.2 hz
          have hm2 := hm
          rw [if_pos (by simp [hz, s45]; omega)] at hm2
          have hwn : IntKind.i64.wrap (n + 1) = n + 1 := (i64_w _).trans (by unfold wrap64; omega)
          have hwn2 : wrap64 (n + 1) = n + 1 := by unfold wrap64; omega
          by_cases h4 : n + 1 ≤ 4
          · have d4 : decide (n + 1 ≤ 4) = true := decide_eq_true h4
            rw [if_pos (by omega)] at hm2
            have HNX := Aside0.mk (show if i + 1 ≤ (s.size : Int) then unitG (cuts 44 (B.drop (i + 1).toNat)) (out ++ [x]) (n + 1).toNat = R else unitG [] (out ++ [x]) (n + 1).toNat = R by
              rw [show (n + 1).toNat = n.toNat + 1 by omega]
              rw [if_neg (by omega)]
              exact hm2)
            have HAL := Aside0.mk (show out.length ≤ 1000000000 by omega)
            clear hi hm hm2 hl hbl hqb hqs hx he0 hempty hcut s1 s8 s45 hz h4 hbt
            go_upto_region 8 with (fail)
            rw [← hq]
            clear hq
            go_wp2_with (first
              | (go_at_call 85; (with_reducible refine (HPq.out _ HQS.out).mono ?_); rintro e w2 ⟨rfl, hd⟩; have HB2 := Aside0.mk (below_step HB.out hd.below); have HO2 := Aside0.mk (Kd.R_below HO.out hd.below); clear hd)
              | ((with_reducible refine gate_builtin (b := .append) (xs := #[.tmp 57, .tmp 59]) rfl ?_); at_builtin; refine Kd.R_append (Kd.int .u32) (w0 := w) w.heap.size rfl (.tmp 57) (.tmp 59) 31 66 (.int .u32 0) 4 rfl Tryd.underlying31 info66u rfl (by decide) (by omega) _ out x [.int .u32 x] (fun _ => True) (fun _ => False) rfl rfl ?aP (fun _ hk => hk.elim) ?aF ?aO ?aB ?aS ?aL ?_; (case aP => exact rfl); (case aB => exact HB2.out); (case aF => exact (fun _ _ => trivial)); (case aO => exact HO2.out); (case aS => exact HB2.out.size); (case aL => have := HAL.out; omega); intro v1 w1 ho hb hg hat; have HO3 := Aside0.mk ho; have HB3 := Aside0.mk hb; clear ho hb hg hat))
            go_roundg k1
            case measure => omega
            case rel =>
              have hi := HI.out
              exact ⟨out ++ [x], i + 1, n + 1, i + 1, rfl, rfl, rfl, ⟨by omega, by omega, by omega, by omega, by omega, by rw [List.length_append, List.length_singleton]; omega⟩, ⟨fun j h1 h2 => by omega⟩, HNX, HO3, HB3⟩
          · have d4 : decide (n + 1 ≤ 4) = false := decide_eq_false h4
            rw [if_neg (by omega)] at hm2
            have HNX := Aside0.mk (show if i + 1 ≤ (s.size : Int) then unitG (cuts 44 (B.drop (i + 1).toNat)) out (n + 1).toNat = R else unitG [] out (n + 1).toNat = R by
              rw [show (n + 1).toNat = n.toNat + 1 by omega]
              rw [if_neg (by omega)]
              exact hm2)
            clear hi hm hm2 hl hbl hqb hqs hx he0 hempty hcut s1 s8 s45 hz h4 hbt
            go_upto_region 8 with (fail)
            rw [← hq]
            clear hq
            go_wp2_with (first
              | (go_at_call 85; (with_reducible refine (HPq.out _ HQS.out).mono ?_); rintro e w2 ⟨rfl, hd⟩; have HB2 := Aside0.mk (below_step HB.out hd.below); have HO2 := Aside0.mk (Kd.R_below HO.out hd.below); clear hd))
            go_roundg k1
            case measure => omega
            case rel =>
              have hi := HI.out
              exact ⟨out, i + 1, n + 1, i + 1, rfl, rfl, rfl, ⟨by omega, by omega, by omega, by omega, by omega, by omega⟩, ⟨fun j h1 h2 => by omega⟩, HNX, HO2, HB2⟩
        · have de : (e0 != 0) = true := bne_iff_ne.2 hz
          have HE := Aside0.mk (show R = ([], 15) by rw [← hm, if_neg (by simp [hz])])
          clear hi hm hl hbl hqb hqs hx he0 hempty hcut s1 s8 s45 hz hbt
          go_upto_region 8 with (fail)
          rw [← hq]
          clear hq
          go_wp2_with (first
            | (go_at_call 85; (with_reducible refine (HPq.out _ HQS.out).mono ?_); rintro e w2 ⟨rfl, hd⟩; have HB2 := Aside0.mk (below_step HB.out hd.below); clear hd))
          go_ret2
          exact ⟨_, by rw [HE.out]; rfl, by rw [HE.out]; exact Kd.R_nil _ _ _ _ _, HB2.out⟩
def tinderref05_ParseUnit.f (s : ByteArray) : Option (List Int × Int) := if s.size ≤ 1000000000 then some (unitF s) else none
theorem tinderref05_ParseUnit.calls (a0 : ByteArray) (r1 : List Int) (r2 : Int) (w : World) (h : tinderref05_ParseUnit.f a0 = some (r1, r2)) :
    Calls Tryd.prog 76 #[.string a0] w fun e w' => ∃ v0_ : Value, e = .returned (.tuple #[v0_, .int .i64 r2]) ∧ Kd.R (Kd.int .u32) 66 w' w.heap.size (fun _ => True) v0_ r1 ∧ Below w.heap.size w w' := by
  unfold tinderref05_ParseUnit.f at h
  split at h
  · rename_i hs
    have e := Option.some.inj h
    have h2 := refUnit_calls a0 w hs
    rw [e] at h2
    exact h2
  · cases h
end Go.Proofs.YtnalcjgefbelnaaDoor.Q
end
section
namespace Go.Proofs.YtnalcjgefbelnaaDoor.Q
open Go.RowKit Go.Proofs.YtnalcjgefbelnaaDoorW.PrintWords Go.Proofs.YtnalcjgefbelnaaDoorW.PrintLast Go.Proofs.YtnalcjgefbelnaaDoorW.PrintMore
set_option linter.unusedVariables false
set_option linter.unusedSimpArgs false

attribute [local go_sem] max2_int min2_int max_two min_two max_three min_three max_four min_four
/-! ### tinderref07_Place: function 62 -/
def tinderref07_Place.l0 : Nat → ByteArray → Int → Int → Option (Int)
  | 0, _, _, _ => none
  | k + 1, x0, x1, x2 => if x1 < (x0.size : Int) then (if 0 ≤ x1 then (if (bt x0 x1) = x2 then (some x1) else (tinderref07_Place.l0 k x0 (wrap64 (x1 + 1)) x2)) else (none)) else (some x1)
def tinderref07_Place.f (k : Nat) (a0 : ByteArray) (a1 : Int) (a2 : Int) : Option (Int) := tinderref07_Place.l0 k a0 a1 a2
set_option maxHeartbeats 8000000 in
set_option maxRecDepth 100000 in
theorem tinderref07_Place.calls (k : Nat) (a0 : ByteArray) (a1 : Int) (a2 : Int) (r : Int) (w : World) (h : tinderref07_Place.f k a0 a1 a2 = some r) :
    Calls Tryd.prog 62 #[.string a0, .int .i64 a1, .int .u8 a2] w fun e w' => e = .returned (.int .i64 r) ∧ Drawn0 w w' := by
  have H : (tinderref07_Place.l0 k a0 a1 a2) = some r := h
  clear h
  have H' := Aside0.mk H
  clear H
  go_enter Tryd.func62, Tryd.ntmps62
  go_wp2
  go_loopg [1] k (fun kq v1 w' => ∃ (x1_1 : Int), v1 = .int .i64 x1_1 ∧ Aside0 (tinderref07_Place.l0 kq a0 x1_1 a2 = some r) ∧ Aside0 (kq ≤ k) ∧ Drawn0 w w')
  case atStart => exact ⟨(a1), (by first | rfl | (simp; done) | (simp [*]; done)), H', ⟨Nat.le_refl _⟩, by repeat (first | exact Drawn0.refl _ | apply Drawn0.step)⟩
  case round =>
    clear H'
    try clear p2
    obtain ⟨x1_1, rfl, HA, HK1, ⟨m1, rfl⟩⟩ := hrel
    cases gk with
    | zero => exact absurd HA.out (by simp [tinderref07_Place.l0])
    | succ k1 =>
      have H := HA.out
      clear HA
      simp only [tinderref07_Place.l0] at H
      by_cases c4 : x1_1 < (a0.size : Int)
      · rw [if_pos c4] at H
        have c4b0 : decide (x1_1 < (a0.size : Int)) = true := decide_eq_true c4
        clear c4
        by_cases c5 : 0 ≤ x1_1
        · rw [if_pos c5] at H
          have c5b0 : decide (0 ≤ x1_1) = true := decide_eq_true c5
          clear c5
          by_cases c7 : (bt a0 x1_1) = a2
          · rw [if_pos c7] at H
            have c7b0 : ((bt a0 x1_1) == a2) = true := beq_iff_eq.mpr c7
            have c7b1 : ((bt a0 x1_1) != a2) = false := bne_eq_false_iff_eq.mpr c7
            clear c7
            obtain rfl := Option.some.inj H
            have p6 : 0 ≤ (x1_1 : Int) := of_decide_eq_true (by first | (with_reducible assumption) | assumption)
            have q6 : x1_1 < (a0.size : Int) := of_decide_eq_true (by first | (with_reducible assumption) | assumption)
            have hx6 := bt_at a0 x1_1
            replace p6 := eq_true p6
            replace q6 := eq_true q6
            go_wp2
            go_ret
            exact ⟨by first | rfl | (simp; done) | (simp [*]; done), by repeat (first | exact Drawn0.refl _ | apply Drawn0.step)⟩
          · rw [if_neg c7] at H
            have c7b0 : ((bt a0 x1_1) == a2) = false := beq_eq_false_iff_ne.mpr c7
            have c7b1 : ((bt a0 x1_1) != a2) = true := bne_iff_ne.mpr c7
            have H' := Aside0.mk H
            clear H
            have p6 : 0 ≤ (x1_1 : Int) := of_decide_eq_true (by first | (with_reducible assumption) | assumption)
            have q6 : x1_1 < (a0.size : Int) := of_decide_eq_true (by first | (with_reducible assumption) | assumption)
            have hx6 := bt_at a0 x1_1
            replace p6 := eq_true p6
            replace q6 := eq_true q6
            go_wp2
            go_roundg k1
            case measure => have := HK1.out; omega
            case rel => exact ⟨(wrap64 (x1_1 + 1)), (by first | rfl | (simp; done) | (simp [*]; done)), H', ⟨by have := HK1.out; omega⟩, by repeat (first | exact Drawn0.refl _ | apply Drawn0.step)⟩
        · rw [if_neg c5] at H
          exact absurd H (by simp)
      · rw [if_neg c4] at H
        have c4b0 : decide (x1_1 < (a0.size : Int)) = false := decide_eq_false c4
        clear c4
        obtain rfl := Option.some.inj H
        go_wp2
        go_ret
        exact ⟨by first | rfl | (simp; done) | (simp [*]; done), by repeat (first | exact Drawn0.refl _ | apply Drawn0.step)⟩

end Go.Proofs.YtnalcjgefbelnaaDoor.Q
end
section
namespace Go.Proofs.YtnalcjgefbelnaaDoor.Q
open Go.RowKit Go.Proofs.YtnalcjgefbelnaaDoorW.PrintWords Go.Proofs.YtnalcjgefbelnaaDoorW.PrintLast Go.Proofs.YtnalcjgefbelnaaDoorW.PrintMore
set_option linter.unusedVariables false
set_option linter.unusedSimpArgs false

attribute [local go_sem] max2_int min2_int max_two min_two max_three min_three max_four min_four
/-! ### tinderref07_step: function 63 -/
def tinderref07_step.j0 : Nat → ByteArray → Int → ByteArray → ByteArray → Option (ByteArray × List Int × ByteArray × Bool)
  | 0, _, _, _, _ => none
  | k + 1, x0, x5, x64003000, x64003002 => if 0 ≤ x5 then (if x5 ≤ (x0.size : Int) then ((tinderref07_Place.f k (x0.extract 0 (x5 : Int).toNat) 0 64).bind fun t64004 => (if t64004 < ((x0.extract 0 (x5 : Int).toNat).size : Int) then (if 0 ≤ (wrap64 (t64004 + 1)) then (if (wrap64 (t64004 + 1)) ≤ ((x0.extract 0 (x5 : Int).toNat).size : Int) then ((tinderref05_ParseUnit.f ((x0.extract 0 (x5 : Int).toNat).extract ((wrap64 (t64004 + 1)) : Int).toNat (x0.extract 0 (x5 : Int).toNat).size)).bind fun bt64005 => (if bt64005.2 = 0 then (if 0 ≤ t64004 then (if t64004 ≤ ((x0.extract 0 (x5 : Int).toNat).size : Int) then ((tinderref05_Named.f k ((x0.extract 0 (x5 : Int).toNat).extract 0 (t64004 : Int).toNat)).bind fun t64009 => (some ((x0.extract 0 (x5 : Int).toNat).extract 0 (t64004 : Int).toNat, bt64005.1, x64003002, t64009))) else (none)) else (none)) else (some ((⟨#[]⟩ : ByteArray), ([] : List Int), (⟨#[]⟩ : ByteArray), false)))) else (none)) else (none)) else (if 0 ≤ t64004 then (if t64004 ≤ ((x0.extract 0 (x5 : Int).toNat).size : Int) then ((tinderref05_Named.f k ((x0.extract 0 (x5 : Int).toNat).extract 0 (t64004 : Int).toNat)).bind fun t64010 => (some ((x0.extract 0 (x5 : Int).toNat).extract 0 (t64004 : Int).toNat, ([] : List Int), x64003002, t64010))) else (none)) else (none)))) else (none)) else (none)
def tinderref07_step.f (k : Nat) (a0 : ByteArray) : Option (ByteArray × List Int × ByteArray × Bool) := (tinderref07_Place.f k a0 0 58).bind fun t64003 => (if t64003 < (a0.size : Int) then (if 0 ≤ (wrap64 (t64003 + 1)) then (if (wrap64 (t64003 + 1)) ≤ (a0.size : Int) then (tinderref07_step.j0 k a0 t64003 (⟨#[]⟩ : ByteArray) (a0.extract ((wrap64 (t64003 + 1)) : Int).toNat a0.size)) else (none)) else (none)) else (tinderref07_step.j0 k a0 t64003 (⟨#[]⟩ : ByteArray) (⟨#[]⟩ : ByteArray)))
set_option maxHeartbeats 8000000 in
set_option maxRecDepth 100000 in
theorem tinderref07_step.calls (k : Nat) (a0 : ByteArray) (r1 : ByteArray) (r2 : List Int) (r3 : ByteArray) (r4 : Bool) (w : World) (h : tinderref07_step.f k a0 = some (r1, r2, r3, r4)) :
    Calls Tryd.prog 63 #[.string a0] w fun e w' => ∃ v1_ : Value, e = .returned (.tuple #[.agg #[.string r1, v1_, .string r3], .bool r4]) ∧ Kd.R (Kd.int .u32) 66 w' w.heap.size (fun _ => True) v1_ r2 ∧ Below w.heap.size w w' := by
  have hu49 := Tryd.underlying49
  have HB := Aside0.mk (Below.refl w.heap.size w)
  have H : ((tinderref07_Place.f k a0 0 58).bind fun t64003 => (if t64003 < (a0.size : Int) then (if 0 ≤ (wrap64 (t64003 + 1)) then (if (wrap64 (t64003 + 1)) ≤ (a0.size : Int) then (tinderref07_step.j0 k a0 t64003 (⟨#[]⟩ : ByteArray) (a0.extract ((wrap64 (t64003 + 1)) : Int).toNat a0.size)) else (none)) else (none)) else (tinderref07_step.j0 k a0 t64003 (⟨#[]⟩ : ByteArray) (⟨#[]⟩ : ByteArray)))) = some (r1, r2, r3, r4) := h
  clear h
  replace H := Option.bind_eq_some_iff.mp H
  obtain ⟨t64003, A20, H⟩ := H
  replace H : (if t64003 < (a0.size : Int) then (if 0 ≤ (wrap64 (t64003 + 1)) then (if (wrap64 (t64003 + 1)) ≤ (a0.size : Int) then (tinderref07_step.j0 k a0 t64003 (⟨#[]⟩ : ByteArray) (a0.extract ((wrap64 (t64003 + 1)) : Int).toNat a0.size)) else (none)) else (none)) else (tinderref07_step.j0 k a0 t64003 (⟨#[]⟩ : ByteArray) (⟨#[]⟩ : ByteArray))) = some (r1, r2, r3, r4) := H
  have A2 := Aside0.mk A20
  clear A20
  have HC3 := Aside0.mk H
  clear H
  go_enter Tryd.func63, Tryd.ntmps63
  go_upto_if 14 with (first | ((with_reducible refine gate_dst (N := 2) rfl ?_); refine box_event ?hg (N := 2) ?hd (cs := #[.string (⟨#[]⟩ : ByteArray), .slice none 0 0, .string (⟨#[]⟩ : ByteArray)]) (t := 49) ?hr ?_; (case hd => rfl); (case hg => rfl); (case hr => first | (go_simp; done) | (go_simp; rfl)); intro gb64001 hg w4 hbox hb; have n0_ := Aside0.mk (below_step (by repeat (first | (with_reducible first | exact HB.out | apply below_alloc | apply pw_below_drewN | apply below_drew1) | exact HB.out)) hb); have n1_ := Aside0.mk (hbox); have n2_ := Aside0.mk ((by rw [hg]; exact (below_size (by repeat (first | (with_reducible first | exact HB.out | apply below_alloc | apply pw_below_drewN | apply below_drew1) | exact HB.out))) : w.heap.size ≤ gb64001)); have n3_ := Aside0.mk ((by rw [hg]; exact (below_size (by repeat (first | (with_reducible first | exact HB.out | apply below_alloc | apply pw_below_drewN | apply below_drew1) | exact HB.out))) : w.heap.size ≤ gb64001)); clear HB; have HB := n0_; have BK64001 := n1_; have GW64001 := n2_; have GE64001 := n3_; clear n0_ n1_ n2_ n3_; clear hb hbox hg) | ((with_reducible refine gate_dst (N := 4) rfl ?_); refine box_event ?hg (N := 4) ?hd (cs := #[.string (⟨#[]⟩ : ByteArray), .slice none 0 0, .string (⟨#[]⟩ : ByteArray)]) (t := 49) ?hr ?_; (case hd => rfl); (case hg => rfl); (case hr => first | (go_simp; done) | (go_simp; rfl)); intro gb64002 hg w5 hbox hb; have n0_ := Aside0.mk (blk_below (g := gb64001) (o := .cells #[.string (⟨#[]⟩ : ByteArray), .slice none 0 0, .string (⟨#[]⟩ : ByteArray)] 49 (0, 0)) (by (with_reducible repeat (first | refine blk_drewN ?_ _ | refine blk_drew ?_ | refine blk_alloc ?_ _)); exact BK64001.out) hb); have n1_ := Aside0.mk (below_step (by repeat (first | (with_reducible first | exact HB.out | apply below_alloc | apply pw_below_drewN | apply below_drew1 | refine below_set ?_ GE64001.out) | exact HB.out)) hb); have n2_ := Aside0.mk (hbox); have n3_ := Aside0.mk ((by rw [hg]; exact (below_size (by repeat (first | (with_reducible first | exact HB.out | apply below_alloc | apply pw_below_drewN | apply below_drew1 | refine below_set ?_ GE64001.out) | exact HB.out))) : w.heap.size ≤ gb64002)); have n4_ := Aside0.mk ((by rw [hg]; exact (below_size (by repeat (first | (with_reducible first | exact HB.out | apply below_alloc | apply pw_below_drewN | apply below_drew1 | refine below_set ?_ GE64001.out) | exact HB.out))) : w.heap.size ≤ gb64002)); have n5_ := Aside0.mk ((by rw [hg]; exact Nat.ne_of_lt (blk_lt (g := gb64001) (o := .cells #[.string (⟨#[]⟩ : ByteArray), .slice none 0 0, .string (⟨#[]⟩ : ByteArray)] 49 (0, 0)) (by (with_reducible repeat (first | refine blk_drewN ?_ _ | refine blk_drew ?_ | refine blk_alloc ?_ _)); exact BK64001.out)) : gb64001 ≠ gb64002)); have n6_ := Aside0.mk ((by rw [hg]; exact Nat.ne_of_gt (blk_lt (g := gb64001) (o := .cells #[.string (⟨#[]⟩ : ByteArray), .slice none 0 0, .string (⟨#[]⟩ : ByteArray)] 49 (0, 0)) (by (with_reducible repeat (first | refine blk_drewN ?_ _ | refine blk_drew ?_ | refine blk_alloc ?_ _)); exact BK64001.out)) : gb64002 ≠ gb64001)); clear BK64001; clear HB; have BK64001 := n0_; have HB := n1_; have BK64002 := n2_; have GW64002 := n3_; have GE64002 := n4_; have NB64001_64002 := n5_; have NB64002_64001 := n6_; clear n0_ n1_ n2_ n3_ n4_ n5_ n6_; clear hb hbox hg) | ((with_reducible refine gate_callee (f := 62) rfl ?_); refine goesL_ (some 10) rfl rfl Tryd.func62 (by kernel_rfl) rfl #[.string a0, .int .i64 0, .int .u8 58] rfl (by (try simp only [List.map_toArray, List.map_cons, List.map_nil]); first | done | rfl | (simp only [List.length_drop, List.length_take]; rfl)) ?_; (with_reducible refine (tinderref07_Place.calls k a0 0 58 t64003 _ A2.out).mono ?_); rintro e w' ⟨rfl, ⟨nd, rfl⟩⟩; refine ⟨_, rfl, ?_⟩))
  (try simp only [Act.put, List.setIfInBounds_toArray, List.set_cons_zero, List.set_cons_succ])
  go_cut [] (fun wc => ∃ (kq : Nat) (x64003002_2 : ByteArray), Aside0 (tinderref07_step.j0 kq a0 t64003 (⟨#[]⟩ : ByteArray) x64003002_2 = some (r1, r2, r3, r4)) ∧ Aside0 (kq ≤ k) ∧ Aside0 (wc.heap[gb64001]? = some (.cells #[.string (⟨#[]⟩ : ByteArray), (.slice none 0 0), .string (⟨#[]⟩ : ByteArray)] 49 (0, 0))) ∧ Aside0 (wc.heap[gb64002]? = some (.cells #[.string (⟨#[]⟩ : ByteArray), (.slice none 0 0), .string x64003002_2] 49 (0, 0))) ∧ Aside0 (Below w.heap.size w wc))
  case first =>
    have H := HC3.out
    clear HC3
    by_cases c6 : t64003 < (a0.size : Int)
    · rw [if_pos c6] at H
      have c6b0 : decide (t64003 < (a0.size : Int)) = true := decide_eq_true c6
      clear c6
      (first | rw [c6b0] | (simp only [i64_w, i32_w]; rw [c6b0]) | skip)
      obtain ⟨ji7, hji7⟩ : ∃ j_ : Int, (wrap64 (t64003 + 1)) = j_ := ⟨_, rfl⟩
      replace H : (if 0 ≤ (ji7) then (if (ji7) ≤ (a0.size : Int) then (tinderref07_step.j0 k a0 t64003 (⟨#[]⟩ : ByteArray) (a0.extract ((ji7) : Int).toNat a0.size)) else (none)) else (none)) = some (r1, r2, r3, r4) := by first | (rw [hji7] at H; exact H) | (simp only [hji7] at H ⊢; exact H)
      have hji7w : (IntKind.i64.wrap (t64003 + 1)) = ji7 := (i64_w _).trans hji7
      by_cases c8 : 0 ≤ (ji7)
      · rw [if_pos c8] at H
        have c8b0 := eq_true c8
        have c8b1 : decide (0 ≤ (ji7)) = true := decide_eq_true c8
        clear c8
        by_cases c9 : (ji7) ≤ (a0.size : Int)
        · rw [if_pos c9] at H
          have c9b0 := eq_true c9
          have c9b1 : decide ((ji7) ≤ (a0.size : Int)) = true := decide_eq_true c9
          clear c9
          have H' := Aside0.mk H
          clear H
          have hnb10 := NB64002_64001.out
          have hnc10 := NB64001_64002.out
          have hcz11_0 : w5.cell? ⟨gb64002, 0, none⟩ = some (.string (⟨#[]⟩ : ByteArray)) := (blk_cell BK64002.out 0).trans rfl
          have hcz11_1 : w5.cell? ⟨gb64002, 1, none⟩ = some (.slice none 0 0) := (blk_cell BK64002.out 1).trans rfl
          have hcz11_2 : w5.cell? ⟨gb64002, 2, none⟩ = some (.string (⟨#[]⟩ : ByteArray)) := (blk_cell BK64002.out 2).trans rfl
          have hfz11_0 := blk_frozen BK64002.out 0
          have hfz11_1 := blk_frozen BK64002.out 1
          have hfz11_2 := blk_frozen BK64002.out 2
          go_wp2
          go_meet
          case rel => exact ⟨_, (a0.extract ((ji7) : Int).toNat a0.size), H', ⟨by first | omega | exact Nat.le_refl _⟩, ⟨by (with_reducible repeat (first | refine blk_drewN ?_ _ | refine blk_drew ?_ | refine blk_alloc ?_ _)); refine blk_far ?_ NB64001_64002.out _; (with_reducible repeat (first | refine blk_drewN ?_ _ | refine blk_drew ?_ | refine blk_alloc ?_ _)); exact BK64001.out⟩, ⟨by (with_reducible repeat (first | refine blk_drewN ?_ _ | refine blk_drew ?_ | refine blk_alloc ?_ _)); refine blk_put (cs := #[.string (⟨#[]⟩ : ByteArray), .slice none 0 0, .string (⟨#[]⟩ : ByteArray)]) ?_ 2 _ rfl; (with_reducible repeat (first | refine blk_drewN ?_ _ | refine blk_drew ?_ | refine blk_alloc ?_ _)); exact BK64002.out⟩, ⟨by repeat (first | (with_reducible first | exact HB.out | apply below_alloc | apply pw_below_drewN | apply below_drew1 | refine below_set ?_ GE64001.out | refine below_set ?_ GE64002.out) | exact HB.out)⟩⟩
        · rw [if_neg c9] at H
          exact absurd H (by simp)
      · rw [if_neg c8] at H
        exact absurd H (by simp)
    · rw [if_neg c6] at H
      have c6b0 : decide (t64003 < (a0.size : Int)) = false := decide_eq_false c6
      clear c6
      (first | rw [c6b0] | (simp only [i64_w, i32_w]; rw [c6b0]) | skip)
      have H' := Aside0.mk H
      clear H
      go_wp2
      go_meet
      case rel => exact ⟨_, ((⟨#[]⟩ : ByteArray)), H', ⟨by first | omega | exact Nat.le_refl _⟩, ⟨by (with_reducible repeat (first | refine blk_drewN ?_ _ | refine blk_drew ?_ | refine blk_alloc ?_ _)); exact BK64001.out⟩, ⟨by (with_reducible repeat (first | refine blk_drewN ?_ _ | refine blk_drew ?_ | refine blk_alloc ?_ _)); exact BK64002.out⟩, ⟨by repeat (first | (with_reducible first | exact HB.out | apply below_alloc | apply pw_below_drewN | apply below_drew1 | refine below_set ?_ GE64001.out | refine below_set ?_ GE64002.out) | exact HB.out)⟩⟩
  case rest =>
    clear HC3
    try clear c1
    try clear p2
    try clear c6
    try clear c6b0
    try clear p6
    try clear c8
    try clear c8b0
    try clear c8b1
    try clear c9
    try clear c9b0
    try clear c9b1
    try clear c10
    try clear hcz11_0
    try clear hcz11_1
    try clear hcz11_2
    try clear hfz11_0
    try clear hfz11_1
    try clear hfz11_2
    obtain ⟨kq, x64003002_2, HA, HJ2, BK64001, BK64002, HB⟩ := hcut
    cases kq with
    | zero => exact absurd HA.out (by simp [tinderref07_step.j0])
    | succ kj2 =>
      have H := HA.out
      clear HA
      simp only [tinderref07_step.j0] at H
      by_cases c12 : 0 ≤ t64003
      · rw [if_pos c12] at H
        have c12b0 := eq_true c12
        have c12b1 : decide (0 ≤ t64003) = true := decide_eq_true c12
        clear c12
        by_cases c13 : t64003 ≤ (a0.size : Int)
        · rw [if_pos c13] at H
          have c13b0 := eq_true c13
          have c13b1 : decide (t64003 ≤ (a0.size : Int)) = true := decide_eq_true c13
          clear c13
          replace H := Option.bind_eq_some_iff.mp H
          obtain ⟨t64004, A140, H⟩ := H
          replace H : (if t64004 < ((a0.extract 0 (t64003 : Int).toNat).size : Int) then (if 0 ≤ (wrap64 (t64004 + 1)) then (if (wrap64 (t64004 + 1)) ≤ ((a0.extract 0 (t64003 : Int).toNat).size : Int) then ((tinderref05_ParseUnit.f ((a0.extract 0 (t64003 : Int).toNat).extract ((wrap64 (t64004 + 1)) : Int).toNat (a0.extract 0 (t64003 : Int).toNat).size)).bind fun bt64005 => (if bt64005.2 = 0 then (if 0 ≤ t64004 then (if t64004 ≤ ((a0.extract 0 (t64003 : Int).toNat).size : Int) then ((tinderref05_Named.f kj2 ((a0.extract 0 (t64003 : Int).toNat).extract 0 (t64004 : Int).toNat)).bind fun t64009 => (some ((a0.extract 0 (t64003 : Int).toNat).extract 0 (t64004 : Int).toNat, bt64005.1, x64003002_2, t64009))) else (none)) else (none)) else (some ((⟨#[]⟩ : ByteArray), ([] : List Int), (⟨#[]⟩ : ByteArray), false)))) else (none)) else (none)) else (if 0 ≤ t64004 then (if t64004 ≤ ((a0.extract 0 (t64003 : Int).toNat).size : Int) then ((tinderref05_Named.f kj2 ((a0.extract 0 (t64003 : Int).toNat).extract 0 (t64004 : Int).toNat)).bind fun t64010 => (some ((a0.extract 0 (t64003 : Int).toNat).extract 0 (t64004 : Int).toNat, ([] : List Int), x64003002_2, t64010))) else (none)) else (none))) = some (r1, r2, r3, r4) := H
          have A14 := Aside0.mk A140
          clear A140
          by_cases c15 : t64004 < ((a0.extract 0 (t64003 : Int).toNat).size : Int)
          · rw [if_pos c15] at H
            have c15n : decide (t64004 < max t64003 0) = true := decide_eq_true (by have h12 := of_eq_true c12b0; have h13 := of_eq_true c13b0; have h14 := c15; rw [ByteArray.size_extract] at h14; omega)
            have c15b0 : decide (t64004 < ((a0.extract 0 (t64003 : Int).toNat).size : Int)) = true := decide_eq_true c15
            clear c15
            obtain ⟨ji16, hji16⟩ : ∃ j_ : Int, (wrap64 (t64004 + 1)) = j_ := ⟨_, rfl⟩
            replace H : (if 0 ≤ (ji16) then (if (ji16) ≤ ((a0.extract 0 (t64003 : Int).toNat).size : Int) then ((tinderref05_ParseUnit.f ((a0.extract 0 (t64003 : Int).toNat).extract ((ji16) : Int).toNat (a0.extract 0 (t64003 : Int).toNat).size)).bind fun bt64005 => (if bt64005.2 = 0 then (if 0 ≤ t64004 then (if t64004 ≤ ((a0.extract 0 (t64003 : Int).toNat).size : Int) then ((tinderref05_Named.f kj2 ((a0.extract 0 (t64003 : Int).toNat).extract 0 (t64004 : Int).toNat)).bind fun t64009 => (some ((a0.extract 0 (t64003 : Int).toNat).extract 0 (t64004 : Int).toNat, bt64005.1, x64003002_2, t64009))) else (none)) else (none)) else (some ((⟨#[]⟩ : ByteArray), ([] : List Int), (⟨#[]⟩ : ByteArray), false)))) else (none)) else (none)) = some (r1, r2, r3, r4) := by first | (rw [hji16] at H; exact H) | (simp only [hji16] at H ⊢; exact H)
            (try rw [hji16] at A14)
            have hji16w : (IntKind.i64.wrap (t64004 + 1)) = ji16 := (i64_w _).trans hji16
            by_cases c17 : 0 ≤ (ji16)
            · rw [if_pos c17] at H
              have c17b0 := eq_true c17
              have c17b1 : decide (0 ≤ (ji16)) = true := decide_eq_true c17
              clear c17
              by_cases c18 : (ji16) ≤ ((a0.extract 0 (t64003 : Int).toNat).size : Int)
              · rw [if_pos c18] at H
                have c18n : ((ji16) ≤ max t64003 0) = True := eq_true (by have h12 := of_eq_true c12b0; have h13 := of_eq_true c13b0; have h14 := c18; rw [ByteArray.size_extract] at h14; omega)
                have c18b0 := eq_true c18
                have c18b1 : decide ((ji16) ≤ ((a0.extract 0 (t64003 : Int).toNat).size : Int)) = true := decide_eq_true c18
                clear c18
                replace H := Option.bind_eq_some_iff.mp H
                obtain ⟨⟨t64005, t64006⟩, A190, H⟩ := H
                replace H : (if t64006 = 0 then (if 0 ≤ t64004 then (if t64004 ≤ ((a0.extract 0 (t64003 : Int).toNat).size : Int) then ((tinderref05_Named.f kj2 ((a0.extract 0 (t64003 : Int).toNat).extract 0 (t64004 : Int).toNat)).bind fun t64009 => (some ((a0.extract 0 (t64003 : Int).toNat).extract 0 (t64004 : Int).toNat, t64005, x64003002_2, t64009))) else (none)) else (none)) else (some ((⟨#[]⟩ : ByteArray), ([] : List Int), (⟨#[]⟩ : ByteArray), false))) = some (r1, r2, r3, r4) := H
                have A19 := Aside0.mk A190
                clear A190
                by_cases c20 : t64006 = 0
                · rw [if_pos c20] at H
                  have c20b0 : (t64006 == 0) = true := beq_iff_eq.mpr c20
                  have c20b1 : (t64006 != 0) = false := bne_eq_false_iff_eq.mpr c20
                  clear c20
                  by_cases c21 : 0 ≤ t64004
                  · rw [if_pos c21] at H
                    have c21b0 := eq_true c21
                    have c21b1 : decide (0 ≤ t64004) = true := decide_eq_true c21
                    clear c21
                    by_cases c22 : t64004 ≤ ((a0.extract 0 (t64003 : Int).toNat).size : Int)
                    · rw [if_pos c22] at H
                      have c22n : (t64004 ≤ max t64003 0) = True := eq_true (by have h12 := of_eq_true c12b0; have h13 := of_eq_true c13b0; have h14 := c22; rw [ByteArray.size_extract] at h14; omega)
                      have c22b0 := eq_true c22
                      have c22b1 : decide (t64004 ≤ ((a0.extract 0 (t64003 : Int).toNat).size : Int)) = true := decide_eq_true c22
                      clear c22
                      replace H := Option.bind_eq_some_iff.mp H
                      obtain ⟨t64009, A230, H⟩ := H
                      replace H : (some ((a0.extract 0 (t64003 : Int).toNat).extract 0 (t64004 : Int).toNat, t64005, x64003002_2, t64009)) = some (r1, r2, r3, r4) := H
                      have A23 := Aside0.mk A230
                      clear A230
                      simp only [Option.some.injEq, Prod.mk.injEq] at H
                      obtain ⟨rfl, rfl, rfl, rfl⟩ := H
                      try go_wp2_with (first | ((with_reducible refine gate_callee (f := 62) rfl ?_); refine goesL_ (some 24) rfl rfl Tryd.func62 (by kernel_rfl) rfl #[.string (a0.extract 0 (t64003 : Int).toNat), .int .i64 0, .int .u8 64] rfl (by (try simp only [List.map_toArray, List.map_cons, List.map_nil]); first | done | rfl | (simp only [List.length_drop, List.length_take]; rfl)) ?_; (with_reducible refine (tinderref07_Place.calls kj2 (a0.extract 0 (t64003 : Int).toNat) 0 64 t64004 _ A14.out).mono ?_); rintro e w' ⟨rfl, ⟨nd, rfl⟩⟩; refine ⟨_, rfl, ?_⟩; (try (rw [drewN_self wc]; generalize hq_ : World.drewN wc _ = wc; have n0_ : Aside0 (wc.heap[gb64001]? = some (.cells #[.string (⟨#[]⟩ : ByteArray), .slice none 0 0, .string (⟨#[]⟩ : ByteArray)] 49 (0, 0))) := ⟨by rw [← hq_]; exact (by (with_reducible repeat (first | refine blk_drewN ?_ _ | refine blk_drew ?_ | refine blk_alloc ?_ _)); exact BK64001.out)⟩; have n1_ : Aside0 (wc.heap[gb64002]? = some (.cells #[.string (⟨#[]⟩ : ByteArray), .slice none 0 0, .string x64003002_2] 49 (0, 0))) := ⟨by rw [← hq_]; exact (by (with_reducible repeat (first | refine blk_drewN ?_ _ | refine blk_drew ?_ | refine blk_alloc ?_ _)); exact BK64002.out)⟩; have n2_ : Aside0 (Below w.heap.size w wc) := ⟨by rw [← hq_]; exact (by repeat (first | (with_reducible first | exact HB.out | apply below_alloc | apply pw_below_drewN | apply below_drew1 | refine below_set ?_ GE64001.out | refine below_set ?_ GE64002.out) | exact HB.out))⟩; clear BK64001 BK64002 HB hq_; have BK64001 := n0_; have BK64002 := n1_; have HB := n2_; clear n0_ n1_ n2_))) | ((with_reducible refine gate_callee (f := 76) rfl ?_); refine goesL_ (some 34) rfl rfl Tryd.func76 (by kernel_rfl) rfl #[.string ((a0.extract 0 (t64003 : Int).toNat).extract ((ji16) : Int).toNat (t64003 : Int).toNat)] rfl (by (try simp only [List.map_toArray, List.map_cons, List.map_nil]); first | done | (simp only [hji16]; rfl) | rfl | (simp only [List.length_drop, List.length_take]; rfl)) ?_; (first | rw [show (a0.extract 0 (t64003 : Int).toNat).extract (ji16 : Int).toNat (t64003 : Int).toNat = (a0.extract 0 (t64003 : Int).toNat).extract (ji16 : Int).toNat (a0.extract 0 (t64003 : Int).toNat).size from by have h12 := of_eq_true c12b0; have h13 := of_eq_true c13b0; rw [ByteArray.size_extract]; congr 1; omega] | skip); (with_reducible refine (tinderref05_ParseUnit.calls ((a0.extract 0 (t64003 : Int).toNat).extract ((ji16) : Int).toNat (a0.extract 0 (t64003 : Int).toNat).size) t64005 t64006 _ A19.out).mono ?_); rintro e w24 ⟨v64007, rfl, ho0, hb⟩; refine ⟨_, rfl, ?_⟩; have n0_ := Aside0.mk (Kd.R_lower ho0 (below_size (by repeat (first | (with_reducible first | exact HB.out | apply below_alloc | apply pw_below_drewN | apply below_drew1 | refine below_set ?_ GE64001.out | refine below_set ?_ GE64002.out) | exact HB.out)))); have n1_ := Aside0.mk (blk_below (g := gb64001) (o := .cells #[.string (⟨#[]⟩ : ByteArray), .slice none 0 0, .string (⟨#[]⟩ : ByteArray)] 49 (0, 0)) (by (with_reducible repeat (first | refine blk_drewN ?_ _ | refine blk_drew ?_ | refine blk_alloc ?_ _)); exact BK64001.out) hb); have n2_ := Aside0.mk (blk_below (g := gb64002) (o := .cells #[.string (⟨#[]⟩ : ByteArray), .slice none 0 0, .string x64003002_2] 49 (0, 0)) (by (with_reducible repeat (first | refine blk_drewN ?_ _ | refine blk_drew ?_ | refine blk_alloc ?_ _)); exact BK64002.out) hb); have n3_ := Aside0.mk (below_step (by repeat (first | (with_reducible first | exact HB.out | apply below_alloc | apply pw_below_drewN | apply below_drew1 | refine below_set ?_ GE64001.out | refine below_set ?_ GE64002.out) | exact HB.out)) hb); clear BK64001; clear BK64002; clear HB; have HO64008 := n0_; have BK64001 := n1_; have BK64002 := n2_; have HB := n3_; clear n0_ n1_ n2_ n3_; (try clear hb); (try clear hb2); (try clear hk); (try clear hi); (try clear ho0); obtain ⟨Ao25, co25, eo25⟩ := Kd.R_slice HO64008.out; subst eo25; have hnb26 := NB64002_64001.out; have hnc26 := NB64001_64002.out; have hcz27_0 : w24.cell? ⟨gb64002, 0, none⟩ = some (.string (⟨#[]⟩ : ByteArray)) := (blk_cell BK64002.out 0).trans rfl; have hcz27_1 : w24.cell? ⟨gb64002, 1, none⟩ = some (.slice none 0 0) := (blk_cell BK64002.out 1).trans rfl; have hcz27_2 : w24.cell? ⟨gb64002, 2, none⟩ = some (.string x64003002_2) := (blk_cell BK64002.out 2).trans rfl; have hfz27_0 := blk_frozen BK64002.out 0; have hfz27_1 := blk_frozen BK64002.out 1; have hfz27_2 := blk_frozen BK64002.out 2))
                      have n0_ : Aside0 (Kd.R (Kd.int .u32) 66 ((w24.setCell ⟨gb64002, 1, none⟩ (.slice Ao25 t64005.length co25)).setCell ⟨gb64002, 0, none⟩ (.string ((a0.extract 0 (t64003 : Int).toNat).extract 0 (t64004 : Int).toNat))) w.heap.size (fun _ => True) (.slice Ao25 t64005.length co25) t64005) := ⟨by (with_reducible repeat (first | apply Kd.R_alloc | apply Kd.R_drewN | apply Kd.R_drew)); exact Kd.R_mono (Kd.R_far (p := ⟨gb64002, 0, none⟩) (Kd.R_far (p := ⟨gb64002, 1, none⟩) (Kd.R_types HO64008.out BK64002.out (by decide)) (fun _ hk => hk.2) (.slice Ao25 t64005.length co25)) (fun _ hk => hk.2) (.string ((a0.extract 0 (t64003 : Int).toNat).extract 0 (t64004 : Int).toNat))) (fun _ hk => trivial)⟩
                      have n1_ : Aside0 (((w24.setCell ⟨gb64002, 1, none⟩ (.slice Ao25 t64005.length co25)).setCell ⟨gb64002, 0, none⟩ (.string ((a0.extract 0 (t64003 : Int).toNat).extract 0 (t64004 : Int).toNat))).heap[gb64001]? = some (.cells #[.string (⟨#[]⟩ : ByteArray), .slice none 0 0, .string (⟨#[]⟩ : ByteArray)] 49 (0, 0))) := ⟨by (with_reducible repeat (first | refine blk_drewN ?_ _ | refine blk_drew ?_ | refine blk_alloc ?_ _)); refine blk_far ?_ NB64001_64002.out _; (with_reducible repeat (first | refine blk_drewN ?_ _ | refine blk_drew ?_ | refine blk_alloc ?_ _)); refine blk_far ?_ NB64001_64002.out _; (with_reducible repeat (first | refine blk_drewN ?_ _ | refine blk_drew ?_ | refine blk_alloc ?_ _)); exact BK64001.out⟩
                      have n2_ : Aside0 (((w24.setCell ⟨gb64002, 1, none⟩ (.slice Ao25 t64005.length co25)).setCell ⟨gb64002, 0, none⟩ (.string ((a0.extract 0 (t64003 : Int).toNat).extract 0 (t64004 : Int).toNat))).heap[gb64002]? = some (.cells #[.string ((a0.extract 0 (t64003 : Int).toNat).extract 0 (t64004 : Int).toNat), .slice Ao25 t64005.length co25, .string x64003002_2] 49 (0, 0))) := ⟨by (with_reducible repeat (first | refine blk_drewN ?_ _ | refine blk_drew ?_ | refine blk_alloc ?_ _)); refine blk_put (cs := #[.string (⟨#[]⟩ : ByteArray), .slice Ao25 t64005.length co25, .string x64003002_2]) ?_ 0 _ rfl; (with_reducible repeat (first | refine blk_drewN ?_ _ | refine blk_drew ?_ | refine blk_alloc ?_ _)); refine blk_put (cs := #[.string (⟨#[]⟩ : ByteArray), .slice none 0 0, .string x64003002_2]) ?_ 1 _ rfl; (with_reducible repeat (first | refine blk_drewN ?_ _ | refine blk_drew ?_ | refine blk_alloc ?_ _)); exact BK64002.out⟩
                      have n3_ : Aside0 (Below w.heap.size w ((w24.setCell ⟨gb64002, 1, none⟩ (.slice Ao25 t64005.length co25)).setCell ⟨gb64002, 0, none⟩ (.string ((a0.extract 0 (t64003 : Int).toNat).extract 0 (t64004 : Int).toNat)))) := ⟨by repeat (first | (with_reducible first | exact HB.out | apply below_alloc | apply pw_below_drewN | apply below_drew1 | refine below_set ?_ GE64001.out | refine below_set ?_ GE64002.out) | exact HB.out)⟩
                      (try clear HO64008)
                      (try clear BK64001)
                      (try clear BK64002)
                      (try clear HB)
                      generalize ((w24.setCell ⟨gb64002, 1, none⟩ (.slice Ao25 t64005.length co25)).setCell ⟨gb64002, 0, none⟩ (.string ((a0.extract 0 (t64003 : Int).toNat).extract 0 (t64004 : Int).toNat))) = w28 at n0_ n1_ n2_ n3_ ⊢
                      have HO64008 := n0_
                      have BK64001 := n1_
                      have BK64002 := n2_
                      have HB := n3_
                      clear n0_ n1_ n2_ n3_
                      have n0_ := Aside0.mk (Kd.R_drew HO64008.out)
                      have n1_ := Aside0.mk (blk_drew BK64001.out)
                      have n2_ := Aside0.mk (blk_drew BK64002.out)
                      have n3_ := Aside0.mk (below_drew1 HB.out)
                      clear HO64008
                      clear BK64001
                      clear BK64002
                      clear HB
                      have HO64008 := n0_
                      have BK64001 := n1_
                      have BK64002 := n2_
                      have HB := n3_
                      clear n0_ n1_ n2_ n3_
                      refine start_ (n := 6) (S := fun w' => w'.cell? ⟨gb64002, 0, none⟩ = some (.string ((a0.extract 0 (t64003 : Int).toNat).extract 0 (t64004 : Int).toNat)) ∧ w'.cell? ⟨gb64002, 1, none⟩ = some (.slice Ao25 t64005.length co25) ∧ w'.cell? ⟨gb64002, 2, none⟩ = some (.string x64003002_2)) (ds := []) #[false, false, false, false, false, false] (by kernel_rfl) rfl rfl ⟨(blk_cell BK64002.out 0).trans rfl, (blk_cell BK64002.out 1).trans rfl, (blk_cell BK64002.out 2).trans rfl⟩ (fun hHeld => ?_)
                      generalize w28.drew = w29 at HO64008 BK64001 BK64002 HB hHeld ⊢
                      refine pure_ (i := 1) (N := some 47) (v := ?_) (a' := ?_) #[false, true, false, false, false, false] rfl rfl (by kernel_rfl) (fun _ _ _ h => h) (Or.inl ⟨by rfl, ?_⟩) ?_ ?_
                      rotate_left
                      · intro w'
                        go_simp
                        with_reducible rfl
                      rotate_left
                      · simp only [Act.put, List.setIfInBounds_toArray, List.set_cons_zero, List.set_cons_succ, i64_w, i32_w]
                        rfl
                      refine take_ (i := 0) (N := some 46) (v := ?_) (a' := ?_) #[true, true, false, false, false, false] rfl rfl (by kernel_rfl) (fun _ _ _ h => h) (Or.inl ⟨by rfl, ?_⟩) hHeld ?_ ?_
                      rotate_left
                      · rintro w' ⟨s0, s1, s2⟩
                        go_simp
                        with_reducible rfl
                      rotate_left
                      · simp only [Act.put, List.setIfInBounds_toArray, List.set_cons_zero, List.set_cons_succ, i64_w, i32_w]
                        rfl
                      refine take_ (i := 2) (N := some 48) (v := ?_) (a' := ?_) #[true, true, true, false, false, false] rfl rfl (by kernel_rfl) (fun _ _ _ h => h) (Or.inl ⟨by rfl, ?_⟩) hHeld ?_ ?_
                      rotate_left
                      · rintro w' ⟨s0, s1, s2⟩
                        go_simp
                        with_reducible rfl
                      rotate_left
                      · simp only [Act.put, List.setIfInBounds_toArray, List.set_cons_zero, List.set_cons_succ, i64_w, i32_w]
                        rfl
                      refine one_ (i := 3) (N := some 49) #[true, true, true, true, false, false] rfl rfl (by kernel_rfl) (by decide) (fun K hK => ?_)
                      refine goes_ Tryd.func44 (by kernel_rfl) rfl #[.string ((a0.extract 0 (t64003 : Int).toNat).extract 0 (t64004 : Int).toNat)] (by rfl) rfl rfl (by (try simp only [List.map_toArray, List.map_cons, List.map_nil]); first | done | rfl | (simp only [List.length_drop, List.length_take]; rfl)) ?_
                      with_reducible refine (tinderref05_Named.calls kj2 ((a0.extract 0 (t64003 : Int).toNat).extract 0 (t64004 : Int).toNat) t64009 _ A23.out).mono ?_
                      rintro e w' ⟨rfl, ⟨nd, rfl⟩⟩
                      refine ⟨_, rfl, ?_⟩
                      refine hK.out _ _ ⟨(blk_cell BK64002.out 0).trans rfl, (blk_cell BK64002.out 1).trans rfl, (blk_cell BK64002.out 2).trans rfl⟩ (fun hHeld => ?_)
                      clear hK K
                      refine norm_ (a' := ?_) ?_ ?_
                      rotate_left
                      · show Act.put _ (some 49) _ = _
                        simp only [Act.put, List.setIfInBounds_toArray, List.set_cons_zero, List.set_cons_succ, i64_w, i32_w]
                        rfl
                      refine one_ (i := 4) (N := none) #[true, true, true, true, true, false] rfl rfl (by kernel_rfl) (by decide) (fun K hK => ?_)
                      have hs30 : w29.cell? ⟨gb64001, 0, none⟩ = some (.string (⟨#[]⟩ : ByteArray)) := (blk_cell BK64001.out 0).trans rfl
                      have hfs30 := blk_frozen BK64001.out 0
                      have hns30_1 := NB64002_64001.out
                      have hms30_1 := NB64001_64002.out
                      have hs31 : w29.cell? ⟨gb64001, 1, none⟩ = some (.slice none 0 0) := (blk_cell BK64001.out 1).trans rfl
                      have hfs31 := blk_frozen BK64001.out 1
                      have hns31_1 := NB64002_64001.out
                      have hms31_1 := NB64001_64002.out
                      have hs32 : w29.cell? ⟨gb64001, 2, none⟩ = some (.string (⟨#[]⟩ : ByteArray)) := (blk_cell BK64001.out 2).trans rfl
                      have hfs32 := blk_frozen BK64001.out 2
                      have hns32_1 := NB64002_64001.out
                      have hms32_1 := NB64001_64002.out
                      refine skip_ (w1 := ?_) (by rfl) rfl ?_ ?_
                      rotate_left
                      · go_simp
                        rfl
                      refine hK.out _ _ ⟨((cell_far (p := ⟨gb64001, _, none⟩) NB64002_64001.out _).trans (((cell_far (p := ⟨gb64001, _, none⟩) NB64002_64001.out _).trans (((cell_far (p := ⟨gb64001, _, none⟩) NB64002_64001.out _).trans (hHeld.1)))))), ((cell_far (p := ⟨gb64001, _, none⟩) NB64002_64001.out _).trans (((cell_far (p := ⟨gb64001, _, none⟩) NB64002_64001.out _).trans (((cell_far (p := ⟨gb64001, _, none⟩) NB64002_64001.out _).trans (hHeld.2.1)))))), ((cell_far (p := ⟨gb64001, _, none⟩) NB64002_64001.out _).trans (((cell_far (p := ⟨gb64001, _, none⟩) NB64002_64001.out _).trans (((cell_far (p := ⟨gb64001, _, none⟩) NB64002_64001.out _).trans (hHeld.2.2))))))⟩ (fun hHeld => ?_)
                      clear hK K
                      refine pure_ (i := 5) (N := some 3) (v := ?_) (a' := ?_) #[true, true, true, true, true, true] rfl rfl (by kernel_rfl) (fun _ _ _ h => h) (Or.inl ⟨by rfl, ?_⟩) ?_ ?_
                      rotate_left
                      · intro w'
                        go_simp
                        with_reducible rfl
                      rotate_left
                      · simp only [Act.put, List.setIfInBounds_toArray, List.set_cons_zero, List.set_cons_succ, i64_w, i32_w]
                        rfl
                      refine done_ (by kernel_rfl) ?_
                      try go_wp2
                      refine bodyPost_ret (results_ct rfl _ _ gb64001 49 #[.string ((a0.extract 0 (t64003 : Int).toNat).extract 0 (t64004 : Int).toNat), .slice Ao25 t64005.length co25, .string x64003002_2] (0, 0) _ rfl (by (with_reducible repeat (first | refine blk_drewN ?_ _ | refine blk_drew ?_ | refine blk_alloc ?_ _)); refine blk_put (cs := #[.string ((a0.extract 0 (t64003 : Int).toNat).extract 0 (t64004 : Int).toNat), .slice Ao25 t64005.length co25, .string (⟨#[]⟩ : ByteArray)]) ?_ 2 _ rfl; (with_reducible repeat (first | refine blk_drewN ?_ _ | refine blk_drew ?_ | refine blk_alloc ?_ _)); refine blk_put (cs := #[.string ((a0.extract 0 (t64003 : Int).toNat).extract 0 (t64004 : Int).toNat), .slice none 0 0, .string (⟨#[]⟩ : ByteArray)]) ?_ 1 _ rfl; (with_reducible repeat (first | refine blk_drewN ?_ _ | refine blk_drew ?_ | refine blk_alloc ?_ _)); refine blk_put (cs := #[.string (⟨#[]⟩ : ByteArray), .slice none 0 0, .string (⟨#[]⟩ : ByteArray)]) ?_ 0 _ rfl; (with_reducible repeat (first | refine blk_drewN ?_ _ | refine blk_drew ?_ | refine blk_alloc ?_ _)); exact BK64001.out) Tryd.underlying49 rfl (by kernel_rfl)) rfl ?_
                      exact ⟨_, by first | rfl | (simp [errW_none, errW_some] <;> rfl) | (simp only [← hji16]; first | rfl | (simp [errW_none, errW_some] <;> rfl)) | (simp [*, errW_none, errW_some] <;> rfl), by (with_reducible repeat (first | apply Kd.R_alloc | apply Kd.R_drewN | apply Kd.R_drew)); exact Kd.R_mono (Kd.R_far (p := ⟨gb64001, 2, none⟩) (Kd.R_far (p := ⟨gb64001, 1, none⟩) (Kd.R_far (p := ⟨gb64001, 0, none⟩) (Kd.R_types HO64008.out BK64001.out (by decide)) (fun _ hk => hk.2) (.string ((a0.extract 0 (t64003 : Int).toNat).extract 0 (t64004 : Int).toNat))) (fun _ hk => hk.2) (.slice Ao25 t64005.length co25)) (fun _ hk => hk.2) (.string x64003002_2)) (fun _ hk => trivial), by repeat (first | (with_reducible first | exact HB.out | apply below_alloc | apply pw_below_drewN | apply below_drew1 | refine below_set ?_ GE64001.out | refine below_set ?_ GE64002.out) | exact HB.out)⟩
                    · rw [if_neg c22] at H
                      exact absurd H (by simp)
                  · rw [if_neg c21] at H
                    exact absurd H (by simp)
                · rw [if_neg c20] at H
                  have c20b0 : (t64006 == 0) = false := beq_eq_false_iff_ne.mpr c20
                  have c20b1 : (t64006 != 0) = true := bne_iff_ne.mpr c20
                  simp only [Option.some.injEq, Prod.mk.injEq] at H
                  obtain ⟨rfl, rfl, rfl, rfl⟩ := H
                  go_wp2_with (first | ((with_reducible refine gate_callee (f := 62) rfl ?_); refine goesL_ (some 24) rfl rfl Tryd.func62 (by kernel_rfl) rfl #[.string (a0.extract 0 (t64003 : Int).toNat), .int .i64 0, .int .u8 64] rfl (by (try simp only [List.map_toArray, List.map_cons, List.map_nil]); first | done | rfl | (simp only [List.length_drop, List.length_take]; rfl)) ?_; (with_reducible refine (tinderref07_Place.calls kj2 (a0.extract 0 (t64003 : Int).toNat) 0 64 t64004 _ A14.out).mono ?_); rintro e w' ⟨rfl, ⟨nd, rfl⟩⟩; refine ⟨_, rfl, ?_⟩; (try (rw [drewN_self wc]; generalize hq_ : World.drewN wc _ = wc; have n0_ : Aside0 (wc.heap[gb64001]? = some (.cells #[.string (⟨#[]⟩ : ByteArray), .slice none 0 0, .string (⟨#[]⟩ : ByteArray)] 49 (0, 0))) := ⟨by rw [← hq_]; exact (by (with_reducible repeat (first | refine blk_drewN ?_ _ | refine blk_drew ?_ | refine blk_alloc ?_ _)); exact BK64001.out)⟩; have n1_ : Aside0 (wc.heap[gb64002]? = some (.cells #[.string (⟨#[]⟩ : ByteArray), .slice none 0 0, .string x64003002_2] 49 (0, 0))) := ⟨by rw [← hq_]; exact (by (with_reducible repeat (first | refine blk_drewN ?_ _ | refine blk_drew ?_ | refine blk_alloc ?_ _)); exact BK64002.out)⟩; have n2_ : Aside0 (Below w.heap.size w wc) := ⟨by rw [← hq_]; exact (by repeat (first | (with_reducible first | exact HB.out | apply below_alloc | apply pw_below_drewN | apply below_drew1 | refine below_set ?_ GE64001.out | refine below_set ?_ GE64002.out) | exact HB.out))⟩; clear BK64001 BK64002 HB hq_; have BK64001 := n0_; have BK64002 := n1_; have HB := n2_; clear n0_ n1_ n2_))) | ((with_reducible refine gate_callee (f := 76) rfl ?_); refine goesL_ (some 34) rfl rfl Tryd.func76 (by kernel_rfl) rfl #[.string ((a0.extract 0 (t64003 : Int).toNat).extract ((ji16) : Int).toNat (t64003 : Int).toNat)] rfl (by (try simp only [List.map_toArray, List.map_cons, List.map_nil]); first | done | (simp only [hji16]; rfl) | rfl | (simp only [List.length_drop, List.length_take]; rfl)) ?_; (first | rw [show (a0.extract 0 (t64003 : Int).toNat).extract (ji16 : Int).toNat (t64003 : Int).toNat = (a0.extract 0 (t64003 : Int).toNat).extract (ji16 : Int).toNat (a0.extract 0 (t64003 : Int).toNat).size from by have h12 := of_eq_true c12b0; have h13 := of_eq_true c13b0; rw [ByteArray.size_extract]; congr 1; omega] | skip); (with_reducible refine (tinderref05_ParseUnit.calls ((a0.extract 0 (t64003 : Int).toNat).extract ((ji16) : Int).toNat (a0.extract 0 (t64003 : Int).toNat).size) t64005 t64006 _ A19.out).mono ?_); rintro e w33 ⟨v64007, rfl, ho0, hb⟩; refine ⟨_, rfl, ?_⟩; have n0_ := Aside0.mk (Kd.R_lower ho0 (below_size (by repeat (first | (with_reducible first | exact HB.out | apply below_alloc | apply pw_below_drewN | apply below_drew1 | refine below_set ?_ GE64001.out | refine below_set ?_ GE64002.out) | exact HB.out)))); have n1_ := Aside0.mk (blk_below (g := gb64001) (o := .cells #[.string (⟨#[]⟩ : ByteArray), .slice none 0 0, .string (⟨#[]⟩ : ByteArray)] 49 (0, 0)) (by (with_reducible repeat (first | refine blk_drewN ?_ _ | refine blk_drew ?_ | refine blk_alloc ?_ _)); exact BK64001.out) hb); have n2_ := Aside0.mk (blk_below (g := gb64002) (o := .cells #[.string (⟨#[]⟩ : ByteArray), .slice none 0 0, .string x64003002_2] 49 (0, 0)) (by (with_reducible repeat (first | refine blk_drewN ?_ _ | refine blk_drew ?_ | refine blk_alloc ?_ _)); exact BK64002.out) hb); have n3_ := Aside0.mk (below_step (by repeat (first | (with_reducible first | exact HB.out | apply below_alloc | apply pw_below_drewN | apply below_drew1 | refine below_set ?_ GE64001.out | refine below_set ?_ GE64002.out) | exact HB.out)) hb); clear BK64001; clear BK64002; clear HB; have HO64008 := n0_; have BK64001 := n1_; have BK64002 := n2_; have HB := n3_; clear n0_ n1_ n2_ n3_; (try clear hb); (try clear hb2); (try clear hk); (try clear hi); (try clear ho0); have hnb34 := NB64001_64002.out; have hnc34 := NB64002_64001.out; have hcz35_0 : w33.cell? ⟨gb64001, 0, none⟩ = some (.string (⟨#[]⟩ : ByteArray)) := (blk_cell BK64001.out 0).trans rfl; have hcz35_1 : w33.cell? ⟨gb64001, 1, none⟩ = some (.slice none 0 0) := (blk_cell BK64001.out 1).trans rfl; have hcz35_2 : w33.cell? ⟨gb64001, 2, none⟩ = some (.string (⟨#[]⟩ : ByteArray)) := (blk_cell BK64001.out 2).trans rfl; have hfz35_0 := blk_frozen BK64001.out 0; have hfz35_1 := blk_frozen BK64001.out 1; have hfz35_2 := blk_frozen BK64001.out 2))
                  refine bodyPost_ret (results_ct rfl _ _ gb64001 49 #[.string (⟨#[]⟩ : ByteArray), .slice none 0 0, .string (⟨#[]⟩ : ByteArray)] (0, 0) _ rfl (by (with_reducible repeat (first | refine blk_drewN ?_ _ | refine blk_drew ?_ | refine blk_alloc ?_ _)); refine blk_put (cs := #[.string (⟨#[]⟩ : ByteArray), .slice none 0 0, .string (⟨#[]⟩ : ByteArray)]) ?_ 2 _ rfl; (with_reducible repeat (first | refine blk_drewN ?_ _ | refine blk_drew ?_ | refine blk_alloc ?_ _)); refine blk_put (cs := #[.string (⟨#[]⟩ : ByteArray), .slice none 0 0, .string (⟨#[]⟩ : ByteArray)]) ?_ 1 _ rfl; (with_reducible repeat (first | refine blk_drewN ?_ _ | refine blk_drew ?_ | refine blk_alloc ?_ _)); refine blk_put (cs := #[.string (⟨#[]⟩ : ByteArray), .slice none 0 0, .string (⟨#[]⟩ : ByteArray)]) ?_ 0 _ rfl; (with_reducible repeat (first | refine blk_drewN ?_ _ | refine blk_drew ?_ | refine blk_alloc ?_ _)); exact BK64001.out) Tryd.underlying49 rfl (by kernel_rfl)) rfl ?_
                  exact ⟨_, by first | rfl | (simp [errW_none, errW_some] <;> rfl) | (simp only [← hji16]; first | rfl | (simp [errW_none, errW_some] <;> rfl)) | (simp [*, errW_none, errW_some] <;> rfl), by first | exact Kd.R_nil _ _ _ _ _ | exact Kd.N_nil _ _ _ _ _ | exact Kd.V_nil _ _ _ _ _ | exact Kd.Q_nil _ _ _ _ _ | exact Kd.S_nil _ _ _ _ _, by repeat (first | (with_reducible first | exact HB.out | apply below_alloc | apply pw_below_drewN | apply below_drew1 | refine below_set ?_ GE64001.out | refine below_set ?_ GE64002.out) | exact HB.out)⟩
              · rw [if_neg c18] at H
                exact absurd H (by simp)
            · rw [if_neg c17] at H
              exact absurd H (by simp)
          · rw [if_neg c15] at H
            have c15n : decide (t64004 < max t64003 0) = false := decide_eq_false (by have h12 := of_eq_true c12b0; have h13 := of_eq_true c13b0; have h14 := c15; rw [ByteArray.size_extract] at h14; omega)
            have c15b0 : decide (t64004 < ((a0.extract 0 (t64003 : Int).toNat).size : Int)) = false := decide_eq_false c15
            clear c15
            by_cases c36 : 0 ≤ t64004
            · rw [if_pos c36] at H
              have c36b0 := eq_true c36
              have c36b1 : decide (0 ≤ t64004) = true := decide_eq_true c36
              clear c36
              by_cases c37 : t64004 ≤ ((a0.extract 0 (t64003 : Int).toNat).size : Int)
              · rw [if_pos c37] at H
                have c37n : (t64004 ≤ max t64003 0) = True := eq_true (by have h12 := of_eq_true c12b0; have h13 := of_eq_true c13b0; have h14 := c37; rw [ByteArray.size_extract] at h14; omega)
                have c37b0 := eq_true c37
                have c37b1 : decide (t64004 ≤ ((a0.extract 0 (t64003 : Int).toNat).size : Int)) = true := decide_eq_true c37
                clear c37
                replace H := Option.bind_eq_some_iff.mp H
                obtain ⟨t64010, A380, H⟩ := H
                replace H : (some ((a0.extract 0 (t64003 : Int).toNat).extract 0 (t64004 : Int).toNat, ([] : List Int), x64003002_2, t64010)) = some (r1, r2, r3, r4) := H
                have A38 := Aside0.mk A380
                clear A380
                simp only [Option.some.injEq, Prod.mk.injEq] at H
                obtain ⟨rfl, rfl, rfl, rfl⟩ := H
                try go_wp2_with (first | ((with_reducible refine gate_callee (f := 62) rfl ?_); refine goesL_ (some 24) rfl rfl Tryd.func62 (by kernel_rfl) rfl #[.string (a0.extract 0 (t64003 : Int).toNat), .int .i64 0, .int .u8 64] rfl (by (try simp only [List.map_toArray, List.map_cons, List.map_nil]); first | done | rfl | (simp only [List.length_drop, List.length_take]; rfl)) ?_; (with_reducible refine (tinderref07_Place.calls kj2 (a0.extract 0 (t64003 : Int).toNat) 0 64 t64004 _ A14.out).mono ?_); rintro e w' ⟨rfl, ⟨nd, rfl⟩⟩; refine ⟨_, rfl, ?_⟩; (try (rw [drewN_self wc]; generalize hq_ : World.drewN wc _ = wc; have n0_ : Aside0 (wc.heap[gb64001]? = some (.cells #[.string (⟨#[]⟩ : ByteArray), .slice none 0 0, .string (⟨#[]⟩ : ByteArray)] 49 (0, 0))) := ⟨by rw [← hq_]; exact (by (with_reducible repeat (first | refine blk_drewN ?_ _ | refine blk_drew ?_ | refine blk_alloc ?_ _)); exact BK64001.out)⟩; have n1_ : Aside0 (wc.heap[gb64002]? = some (.cells #[.string (⟨#[]⟩ : ByteArray), .slice none 0 0, .string x64003002_2] 49 (0, 0))) := ⟨by rw [← hq_]; exact (by (with_reducible repeat (first | refine blk_drewN ?_ _ | refine blk_drew ?_ | refine blk_alloc ?_ _)); exact BK64002.out)⟩; have n2_ : Aside0 (Below w.heap.size w wc) := ⟨by rw [← hq_]; exact (by repeat (first | (with_reducible first | exact HB.out | apply below_alloc | apply pw_below_drewN | apply below_drew1 | refine below_set ?_ GE64001.out | refine below_set ?_ GE64002.out) | exact HB.out))⟩; clear BK64001 BK64002 HB hq_; have BK64001 := n0_; have BK64002 := n1_; have HB := n2_; clear n0_ n1_ n2_)); have hnb39 := NB64002_64001.out; have hnc39 := NB64001_64002.out; have hcz40_0 : wc.cell? ⟨gb64002, 0, none⟩ = some (.string (⟨#[]⟩ : ByteArray)) := (blk_cell BK64002.out 0).trans rfl; have hcz40_1 : wc.cell? ⟨gb64002, 1, none⟩ = some (.slice none 0 0) := (blk_cell BK64002.out 1).trans rfl; have hcz40_2 : wc.cell? ⟨gb64002, 2, none⟩ = some (.string x64003002_2) := (blk_cell BK64002.out 2).trans rfl; have hfz40_0 := blk_frozen BK64002.out 0; have hfz40_1 := blk_frozen BK64002.out 1; have hfz40_2 := blk_frozen BK64002.out 2))
                have n0_ : Aside0 ((wc.setCell ⟨gb64002, 0, none⟩ (.string ((a0.extract 0 (t64003 : Int).toNat).extract 0 (t64004 : Int).toNat))).heap[gb64001]? = some (.cells #[.string (⟨#[]⟩ : ByteArray), .slice none 0 0, .string (⟨#[]⟩ : ByteArray)] 49 (0, 0))) := ⟨by (with_reducible repeat (first | refine blk_drewN ?_ _ | refine blk_drew ?_ | refine blk_alloc ?_ _)); refine blk_far ?_ NB64001_64002.out _; (with_reducible repeat (first | refine blk_drewN ?_ _ | refine blk_drew ?_ | refine blk_alloc ?_ _)); exact BK64001.out⟩
                have n1_ : Aside0 ((wc.setCell ⟨gb64002, 0, none⟩ (.string ((a0.extract 0 (t64003 : Int).toNat).extract 0 (t64004 : Int).toNat))).heap[gb64002]? = some (.cells #[.string ((a0.extract 0 (t64003 : Int).toNat).extract 0 (t64004 : Int).toNat), .slice none 0 0, .string x64003002_2] 49 (0, 0))) := ⟨by (with_reducible repeat (first | refine blk_drewN ?_ _ | refine blk_drew ?_ | refine blk_alloc ?_ _)); refine blk_put (cs := #[.string (⟨#[]⟩ : ByteArray), .slice none 0 0, .string x64003002_2]) ?_ 0 _ rfl; (with_reducible repeat (first | refine blk_drewN ?_ _ | refine blk_drew ?_ | refine blk_alloc ?_ _)); exact BK64002.out⟩
                have n2_ : Aside0 (Below w.heap.size w (wc.setCell ⟨gb64002, 0, none⟩ (.string ((a0.extract 0 (t64003 : Int).toNat).extract 0 (t64004 : Int).toNat)))) := ⟨by repeat (first | (with_reducible first | exact HB.out | apply below_alloc | apply pw_below_drewN | apply below_drew1 | refine below_set ?_ GE64001.out | refine below_set ?_ GE64002.out) | exact HB.out)⟩
                (try clear BK64001)
                (try clear BK64002)
                (try clear HB)
                generalize (wc.setCell ⟨gb64002, 0, none⟩ (.string ((a0.extract 0 (t64003 : Int).toNat).extract 0 (t64004 : Int).toNat))) = w41 at n0_ n1_ n2_ ⊢
                have BK64001 := n0_
                have BK64002 := n1_
                have HB := n2_
                clear n0_ n1_ n2_
                have n0_ := Aside0.mk (blk_drew BK64001.out)
                have n1_ := Aside0.mk (blk_drew BK64002.out)
                have n2_ := Aside0.mk (below_drew1 HB.out)
                clear BK64001
                clear BK64002
                clear HB
                have BK64001 := n0_
                have BK64002 := n1_
                have HB := n2_
                clear n0_ n1_ n2_
                refine start_ (n := 6) (S := fun w' => w'.cell? ⟨gb64002, 0, none⟩ = some (.string ((a0.extract 0 (t64003 : Int).toNat).extract 0 (t64004 : Int).toNat)) ∧ w'.cell? ⟨gb64002, 1, none⟩ = some (.slice none 0 0) ∧ w'.cell? ⟨gb64002, 2, none⟩ = some (.string x64003002_2)) (ds := []) #[false, false, false, false, false, false] (by kernel_rfl) rfl rfl ⟨(blk_cell BK64002.out 0).trans rfl, (blk_cell BK64002.out 1).trans rfl, (blk_cell BK64002.out 2).trans rfl⟩ (fun hHeld => ?_)
                generalize w41.drew = w42 at BK64001 BK64002 HB hHeld ⊢
                refine pure_ (i := 1) (N := some 47) (v := ?_) (a' := ?_) #[false, true, false, false, false, false] rfl rfl (by kernel_rfl) (fun _ _ _ h => h) (Or.inl ⟨by rfl, ?_⟩) ?_ ?_
                rotate_left
                · intro w'
                  go_simp
                  with_reducible rfl
                rotate_left
                · simp only [Act.put, List.setIfInBounds_toArray, List.set_cons_zero, List.set_cons_succ, i64_w, i32_w]
                  rfl
                refine take_ (i := 0) (N := some 46) (v := ?_) (a' := ?_) #[true, true, false, false, false, false] rfl rfl (by kernel_rfl) (fun _ _ _ h => h) (Or.inl ⟨by rfl, ?_⟩) hHeld ?_ ?_
                rotate_left
                · rintro w' ⟨s0, s1, s2⟩
                  go_simp
                  with_reducible rfl
                rotate_left
                · simp only [Act.put, List.setIfInBounds_toArray, List.set_cons_zero, List.set_cons_succ, i64_w, i32_w]
                  rfl
                refine take_ (i := 2) (N := some 48) (v := ?_) (a' := ?_) #[true, true, true, false, false, false] rfl rfl (by kernel_rfl) (fun _ _ _ h => h) (Or.inl ⟨by rfl, ?_⟩) hHeld ?_ ?_
                rotate_left
                · rintro w' ⟨s0, s1, s2⟩
                  go_simp
                  with_reducible rfl
                rotate_left
                · simp only [Act.put, List.setIfInBounds_toArray, List.set_cons_zero, List.set_cons_succ, i64_w, i32_w]
                  rfl
                refine one_ (i := 3) (N := some 49) #[true, true, true, true, false, false] rfl rfl (by kernel_rfl) (by decide) (fun K hK => ?_)
                refine goes_ Tryd.func44 (by kernel_rfl) rfl #[.string ((a0.extract 0 (t64003 : Int).toNat).extract 0 (t64004 : Int).toNat)] (by rfl) rfl rfl (by (try simp only [List.map_toArray, List.map_cons, List.map_nil]); first | done | rfl | (simp only [List.length_drop, List.length_take]; rfl)) ?_
                with_reducible refine (tinderref05_Named.calls kj2 ((a0.extract 0 (t64003 : Int).toNat).extract 0 (t64004 : Int).toNat) t64010 _ A38.out).mono ?_
                rintro e w' ⟨rfl, ⟨nd, rfl⟩⟩
                refine ⟨_, rfl, ?_⟩
                refine hK.out _ _ ⟨(blk_cell BK64002.out 0).trans rfl, (blk_cell BK64002.out 1).trans rfl, (blk_cell BK64002.out 2).trans rfl⟩ (fun hHeld => ?_)
                clear hK K
                refine norm_ (a' := ?_) ?_ ?_
                rotate_left
                · show Act.put _ (some 49) _ = _
                  simp only [Act.put, List.setIfInBounds_toArray, List.set_cons_zero, List.set_cons_succ, i64_w, i32_w]
                  rfl
                refine one_ (i := 4) (N := none) #[true, true, true, true, true, false] rfl rfl (by kernel_rfl) (by decide) (fun K hK => ?_)
                have hs43 : w42.cell? ⟨gb64001, 0, none⟩ = some (.string (⟨#[]⟩ : ByteArray)) := (blk_cell BK64001.out 0).trans rfl
                have hfs43 := blk_frozen BK64001.out 0
                have hns43_1 := NB64002_64001.out
                have hms43_1 := NB64001_64002.out
                have hs44 : w42.cell? ⟨gb64001, 1, none⟩ = some (.slice none 0 0) := (blk_cell BK64001.out 1).trans rfl
                have hfs44 := blk_frozen BK64001.out 1
                have hns44_1 := NB64002_64001.out
                have hms44_1 := NB64001_64002.out
                have hs45 : w42.cell? ⟨gb64001, 2, none⟩ = some (.string (⟨#[]⟩ : ByteArray)) := (blk_cell BK64001.out 2).trans rfl
                have hfs45 := blk_frozen BK64001.out 2
                have hns45_1 := NB64002_64001.out
                have hms45_1 := NB64001_64002.out
                refine skip_ (w1 := ?_) (by rfl) rfl ?_ ?_
                rotate_left
                · go_simp
                  rfl
                refine hK.out _ _ ⟨((cell_far (p := ⟨gb64001, _, none⟩) NB64002_64001.out _).trans (((cell_far (p := ⟨gb64001, _, none⟩) NB64002_64001.out _).trans (((cell_far (p := ⟨gb64001, _, none⟩) NB64002_64001.out _).trans (hHeld.1)))))), ((cell_far (p := ⟨gb64001, _, none⟩) NB64002_64001.out _).trans (((cell_far (p := ⟨gb64001, _, none⟩) NB64002_64001.out _).trans (((cell_far (p := ⟨gb64001, _, none⟩) NB64002_64001.out _).trans (hHeld.2.1)))))), ((cell_far (p := ⟨gb64001, _, none⟩) NB64002_64001.out _).trans (((cell_far (p := ⟨gb64001, _, none⟩) NB64002_64001.out _).trans (((cell_far (p := ⟨gb64001, _, none⟩) NB64002_64001.out _).trans (hHeld.2.2))))))⟩ (fun hHeld => ?_)
                clear hK K
                refine pure_ (i := 5) (N := some 3) (v := ?_) (a' := ?_) #[true, true, true, true, true, true] rfl rfl (by kernel_rfl) (fun _ _ _ h => h) (Or.inl ⟨by rfl, ?_⟩) ?_ ?_
                rotate_left
                · intro w'
                  go_simp
                  with_reducible rfl
                rotate_left
                · simp only [Act.put, List.setIfInBounds_toArray, List.set_cons_zero, List.set_cons_succ, i64_w, i32_w]
                  rfl
                refine done_ (by kernel_rfl) ?_
                try go_wp2
                refine bodyPost_ret (results_ct rfl _ _ gb64001 49 #[.string ((a0.extract 0 (t64003 : Int).toNat).extract 0 (t64004 : Int).toNat), .slice none 0 0, .string x64003002_2] (0, 0) _ rfl (by (with_reducible repeat (first | refine blk_drewN ?_ _ | refine blk_drew ?_ | refine blk_alloc ?_ _)); refine blk_put (cs := #[.string ((a0.extract 0 (t64003 : Int).toNat).extract 0 (t64004 : Int).toNat), .slice none 0 0, .string (⟨#[]⟩ : ByteArray)]) ?_ 2 _ rfl; (with_reducible repeat (first | refine blk_drewN ?_ _ | refine blk_drew ?_ | refine blk_alloc ?_ _)); refine blk_put (cs := #[.string ((a0.extract 0 (t64003 : Int).toNat).extract 0 (t64004 : Int).toNat), .slice none 0 0, .string (⟨#[]⟩ : ByteArray)]) ?_ 1 _ rfl; (with_reducible repeat (first | refine blk_drewN ?_ _ | refine blk_drew ?_ | refine blk_alloc ?_ _)); refine blk_put (cs := #[.string (⟨#[]⟩ : ByteArray), .slice none 0 0, .string (⟨#[]⟩ : ByteArray)]) ?_ 0 _ rfl; (with_reducible repeat (first | refine blk_drewN ?_ _ | refine blk_drew ?_ | refine blk_alloc ?_ _)); exact BK64001.out) Tryd.underlying49 rfl (by kernel_rfl)) rfl ?_
                exact ⟨_, by first | rfl | (simp [errW_none, errW_some] <;> rfl) | (simp [*, errW_none, errW_some] <;> rfl), by first | exact Kd.R_nil _ _ _ _ _ | exact Kd.N_nil _ _ _ _ _ | exact Kd.V_nil _ _ _ _ _ | exact Kd.Q_nil _ _ _ _ _ | exact Kd.S_nil _ _ _ _ _, by repeat (first | (with_reducible first | exact HB.out | apply below_alloc | apply pw_below_drewN | apply below_drew1 | refine below_set ?_ GE64001.out | refine below_set ?_ GE64002.out) | exact HB.out)⟩
              · rw [if_neg c37] at H
                exact absurd H (by simp)
            · rw [if_neg c36] at H
              exact absurd H (by simp)
        · rw [if_neg c13] at H
          exact absurd H (by simp)
      · rw [if_neg c12] at H
        exact absurd H (by simp)

end Go.Proofs.YtnalcjgefbelnaaDoor.Q
end
section
namespace Go.Proofs.YtnalcjgefbelnaaDoor.Q
open Go.RowKit Go.Proofs.YtnalcjgefbelnaaDoorW.PrintWords Go.Proofs.YtnalcjgefbelnaaDoorW.PrintLast Go.Proofs.YtnalcjgefbelnaaDoorW.PrintMore
set_option linter.unusedVariables false
set_option linter.unusedSimpArgs false

attribute [local go_sem] max2_int min2_int max_two min_two max_three min_three max_four min_four
/-! ### tinderref07_Parse: function 25 -/
mutual
def tinderref07_Parse.j0 : Nat → ByteArray → List (S49) → Bool → Option ((List (S49)) × Int)
  | 0, _, _, _ => none
  | k + 1, x0, x4, x20 => if x20 = true then (some (([] : List (S49)), 15)) else (tinderref07_Parse.l0 k x0 x4 0)
def tinderref07_Parse.l0 : Nat → ByteArray → List (S49) → Int → Option ((List (S49)) × Int)
  | 0, _, _, _ => none
  | k + 1, x0, x4, x5 => if x5 < (x0.size : Int) then ((tinderref07_Place.f k x0 (wrap64 (x5 + 1)) 47).bind fun t26001 => (if 0 ≤ (wrap64 (x5 + 1)) then (if (wrap64 (x5 + 1)) ≤ t26001 then (if t26001 ≤ (x0.size : Int) then ((tinderref07_step.f k (x0.extract ((wrap64 (x5 + 1)) : Int).toNat (t26001 : Int).toNat)).bind fun bt26002 => (if bt26002.2.2.2 = true then (if x4.length < 2513169434916 then (tinderref07_Parse.l0 k x0 (x4 ++ [(⟨bt26002.1, bt26002.2.1, bt26002.2.2.1⟩ : S49)]) t26001) else (none)) else (some (([] : List (S49)), 15)))) else (none)) else (none)) else (none))) else (some (x4, 0))
end
def tinderref07_Parse.f (k : Nat) (a0 : ByteArray) : Option ((List (S49)) × Int) := if (a0.size : Int) > 256 then (some (([] : List (S49)), 3)) else (if a0.toList = ([47] : List UInt8) then (some (([] : List (S49)), 0)) else (if a0.toList = ([] : List UInt8) then (tinderref07_Parse.j0 k a0 ([] : List (S49)) true) else (if 0 < (a0.size : Int) then (tinderref07_Parse.j0 k a0 ([] : List (S49)) ((bt a0 0) != 47)) else (none))))
set_option maxHeartbeats 8000000 in
set_option maxRecDepth 100000 in
theorem tinderref07_Parse.calls (k : Nat) (a0 : ByteArray) (r1 : List (S49)) (r2 : Int) (w : World) (h : tinderref07_Parse.f k a0 = some (r1, r2)) :
    Calls Tryd.prog 25 #[.string a0] w fun e w' => ∃ v0_ : Value, e = .returned (.tuple #[v0_, .int .i64 r2]) ∧ Kd.S k49 49 w' w.heap.size (fun _ => True) v0_ r1 ∧ Below w.heap.size w w' := by
  have hu49 := Tryd.underlying49
  have HB := Aside0.mk (Below.refl w.heap.size w)
  have H : (if (a0.size : Int) > 256 then (some (([] : List (S49)), 3)) else (if a0.toList = ([47] : List UInt8) then (some (([] : List (S49)), 0)) else (if a0.toList = ([] : List UInt8) then (tinderref07_Parse.j0 k a0 ([] : List (S49)) true) else (if 0 < (a0.size : Int) then (tinderref07_Parse.j0 k a0 ([] : List (S49)) ((bt a0 0) != 47)) else (none))))) = some (r1, r2) := h
  clear h
  by_cases c2 : (a0.size : Int) > 256
  · rw [if_pos c2] at H
    have c2b0 : decide (256 < (a0.size : Int)) = true := decide_eq_true c2
    have c2b1 : decide (256 < a0.size) = true := decide_eq_true (by omega)
    clear c2
    simp only [Option.some.injEq, Prod.mk.injEq] at H
    obtain ⟨rfl, rfl⟩ := H
    go_enter Tryd.func25, Tryd.ntmps25
    go_wp2
    go_ret2
    exact ⟨_, by first | rfl | (simp [errW_none, errW_some] <;> rfl) | (simp [*, errW_none, errW_some] <;> rfl), by first | exact Kd.S_nil _ _ _ _ _ | exact Kd.N_nil _ _ _ _ _ | exact Kd.V_nil _ _ _ _ _ | exact Kd.Q_nil _ _ _ _ _ | exact Kd.R_nil _ _ _ _ _, by repeat (first | (with_reducible first | exact HB.out | apply below_alloc | apply pw_below_drewN | apply below_drew1) | exact HB.out)⟩
  · rw [if_neg c2] at H
    have c2b0 : decide (256 < (a0.size : Int)) = false := decide_eq_false c2
    have c2b1 : decide (256 < a0.size) = false := decide_eq_false (by omega)
    clear c2
    by_cases c3 : a0.toList = ([47] : List UInt8)
    · rw [if_pos c3] at H
      have c3b0 : (a0.toList == ([47] : List UInt8)) = true := beq_iff_eq.mpr c3
      have c3b1 : (a0.toList != ([47] : List UInt8)) = false := bne_eq_false_iff_eq.mpr c3
      clear c3
      simp only [Option.some.injEq, Prod.mk.injEq] at H
      obtain ⟨rfl, rfl⟩ := H
      go_enter Tryd.func25, Tryd.ntmps25
      go_wp2
      go_ret2
      exact ⟨_, by first | rfl | (simp [errW_none, errW_some] <;> rfl) | (simp [*, errW_none, errW_some] <;> rfl), by first | exact Kd.S_nil _ _ _ _ _ | exact Kd.N_nil _ _ _ _ _ | exact Kd.V_nil _ _ _ _ _ | exact Kd.Q_nil _ _ _ _ _ | exact Kd.R_nil _ _ _ _ _, by repeat (first | (with_reducible first | exact HB.out | apply below_alloc | apply pw_below_drewN | apply below_drew1) | exact HB.out)⟩
    · rw [if_neg c3] at H
      have c3b0 : (a0.toList == ([47] : List UInt8)) = false := beq_eq_false_iff_ne.mpr c3
      have c3b1 : (a0.toList != ([47] : List UInt8)) = true := bne_iff_ne.mpr c3
      have HC4 := Aside0.mk H
      clear H
      go_enter Tryd.func25, Tryd.ntmps25
      go_upto_region 6 with (fail)
      go_cut [20] (fun v20 wc => ∃ (kq : Nat) (x20_3 : Bool), v20 = .bool x20_3 ∧ Aside0 (tinderref07_Parse.j0 kq a0 ([] : List (S49)) x20_3 = some (r1, r2)) ∧ Aside0 (kq ≤ k) ∧ Aside0 (Kd.S k49 49 wc w.heap.size (fun _ => True) (.slice none 0 0) ([] : List (S49))) ∧ Aside0 (Below w.heap.size w wc))
      case first =>
        have H := HC4.out
        clear HC4
        by_cases c5 : a0.toList = ([] : List UInt8)
        · rw [if_pos c5] at H
          have c5b0 : (a0.toList == ([] : List UInt8)) = true := beq_iff_eq.mpr c5
          have c5b1 : (a0.toList != ([] : List UInt8)) = false := bne_eq_false_iff_eq.mpr c5
          clear c5
          (first | rw [c5b0] | (simp only [i64_w, i32_w]; rw [c5b0]) | skip)
          have H' := Aside0.mk H
          clear H
          go_wp2
          go_meet
          case rel => exact ⟨_, (true), (by first | rfl | (simp; done) | (simp [*]; done)), H', ⟨by first | omega | exact Nat.le_refl _⟩, ⟨by first | exact Kd.S_nil _ _ _ _ _ | exact Kd.N_nil _ _ _ _ _ | exact Kd.V_nil _ _ _ _ _ | exact Kd.Q_nil _ _ _ _ _ | exact Kd.R_nil _ _ _ _ _⟩, ⟨by repeat (first | (with_reducible first | exact HB.out | apply below_alloc | apply pw_below_drewN | apply below_drew1) | exact HB.out)⟩⟩
        · rw [if_neg c5] at H
          have c5b0 : (a0.toList == ([] : List UInt8)) = false := beq_eq_false_iff_ne.mpr c5
          have c5b1 : (a0.toList != ([] : List UInt8)) = true := bne_iff_ne.mpr c5
          (first | rw [c5b0] | (simp only [i64_w, i32_w]; rw [c5b0]) | skip)
          by_cases c6 : 0 < (a0.size : Int)
          · rw [if_pos c6] at H
            have c6b0 : decide (0 < (a0.size : Int)) = true := decide_eq_true c6
            have c6b1 : decide (0 < a0.size) = true := decide_eq_true (by omega)
            clear c6
            have H' := Aside0.mk H
            clear H
            have p7 : 0 ≤ (0 : Int) := (by omega)
            have q7 : 0 < a0.size := (by have : (0 : Int) < (a0.size : Int) := of_decide_eq_true (by first | (with_reducible assumption) | assumption); omega)
            have hx7 : ∀ h : 0 < a0.size, ((a0[0]'h).toNat : Int) = bt a0 0 := bt_at a0 0
            clear p7
            have qi7 : (0 < (a0.size : Int)) = True := eq_true (of_decide_eq_true (by first | (with_reducible assumption) | assumption))
            replace q7 := eq_true q7
            go_wp2
            go_meet
            case rel => exact ⟨_, (((bt a0 0) != 47)), (by first | rfl | (simp; done) | (simp [*]; done)), H', ⟨by first | omega | exact Nat.le_refl _⟩, ⟨by first | exact Kd.S_nil _ _ _ _ _ | exact Kd.N_nil _ _ _ _ _ | exact Kd.V_nil _ _ _ _ _ | exact Kd.Q_nil _ _ _ _ _ | exact Kd.R_nil _ _ _ _ _⟩, ⟨by repeat (first | (with_reducible first | exact HB.out | apply below_alloc | apply pw_below_drewN | apply below_drew1) | exact HB.out)⟩⟩
          · rw [if_neg c6] at H
            exact absurd H (by simp)
      case rest =>
        clear HC4
        try clear c2
        try clear c2b0
        try clear c2b1
        try clear p2
        try clear c3
        try clear c3b0
        try clear c3b1
        try clear c5
        try clear c5b0
        try clear c5b1
        try clear c6
        try clear c6b0
        try clear c6b1
        try clear p7
        try clear q7
        try clear hx7
        try clear qi7
        try clear p7
        try clear q7
        obtain ⟨kq, x20_3, rfl, HA, HJ3, HO_4, HB⟩ := hcut
        cases kq with
        | zero => exact absurd HA.out (by simp [tinderref07_Parse.j0])
        | succ kj3 =>
          have H := HA.out
          clear HA
          simp only [tinderref07_Parse.j0] at H
          by_cases c8 : x20_3 = true
          · subst c8
            have H1 : (some (([] : List (S49)), 15)) = some (r1, r2) := by rw [if_pos rfl] at H; exact H
            clear H
            have H := H1
            clear H1
            simp only [Option.some.injEq, Prod.mk.injEq] at H
            obtain ⟨rfl, rfl⟩ := H
            go_wp2
            go_ret2
            exact ⟨_, by first | rfl | (simp [errW_none, errW_some] <;> rfl) | (simp [*, errW_none, errW_some] <;> rfl), by first | exact Kd.S_nil _ _ _ _ _ | exact Kd.N_nil _ _ _ _ _ | exact Kd.V_nil _ _ _ _ _ | exact Kd.Q_nil _ _ _ _ _ | exact Kd.R_nil _ _ _ _ _, by repeat (first | (with_reducible first | exact HB.out | apply below_alloc | apply pw_below_drewN | apply below_drew1) | exact HB.out)⟩
          · replace c8 := Bool.eq_false_iff.mpr c8
            subst c8
            have H1 : (tinderref07_Parse.l0 kj3 a0 ([] : List (S49)) 0) = some (r1, r2) := by rw [if_neg (show ¬ (false = true) by decide)] at H; exact H
            clear H
            have H := H1
            clear H1
            have H' := Aside0.mk H
            clear H
            go_wp2
            go_loopg [4, 5] kj3 (fun kq v4 v5 w' => ∃ (x4_2 : List (S49)) (x5_2 : Int), v5 = .int .i64 x5_2 ∧ Aside0 (tinderref07_Parse.l0 kq a0 x4_2 x5_2 = some (r1, r2)) ∧ Aside0 (kq ≤ kj3) ∧ Aside0 (Kd.S k49 49 w' w.heap.size (fun _ => True) v4 x4_2) ∧ Aside0 (Below w.heap.size w w'))
            case atStart => exact ⟨(([] : List (S49))), (0), (by first | rfl | (simp; done) | (simp [*]; done)), H', ⟨Nat.le_refl _⟩, ⟨by (with_reducible repeat (first | apply Kd.S_alloc | apply Kd.S_drewN | apply Kd.S_drew)); exact HO_4.out⟩, ⟨by repeat (first | (with_reducible first | exact HB.out | apply below_alloc | apply pw_below_drewN | apply below_drew1) | exact HB.out)⟩⟩
            case round =>
              clear H'
              try clear c2
              try clear c2b0
              try clear c2b1
              try clear p2
              try clear c3
              try clear c3b0
              try clear c3b1
              try clear c5
              try clear c5b0
              try clear c5b1
              try clear c6
              try clear c6b0
              try clear c6b1
              try clear p7
              try clear q7
              try clear hx7
              try clear qi7
              try clear c8
              try clear p2
              try clear p7
              try clear q7
              obtain ⟨x4_2, x5_2, rfl, HA, HK2, HO_4, HB⟩ := hrel
              cases gk with
              | zero => exact absurd HA.out (by simp [tinderref07_Parse.l0])
              | succ k2 =>
                have H := HA.out
                clear HA
                simp only [tinderref07_Parse.l0] at H
                by_cases c9 : x5_2 < (a0.size : Int)
                · rw [if_pos c9] at H
                  have c9b0 : decide (x5_2 < (a0.size : Int)) = true := decide_eq_true c9
                  clear c9
                  replace H := Option.bind_eq_some_iff.mp H
                  obtain ⟨t26001, A100, H⟩ := H
                  replace H : (if 0 ≤ (wrap64 (x5_2 + 1)) then (if (wrap64 (x5_2 + 1)) ≤ t26001 then (if t26001 ≤ (a0.size : Int) then ((tinderref07_step.f k2 (a0.extract ((wrap64 (x5_2 + 1)) : Int).toNat (t26001 : Int).toNat)).bind fun bt26002 => (if bt26002.2.2.2 = true then (if x4_2.length < 2513169434916 then (tinderref07_Parse.l0 k2 a0 (x4_2 ++ [(⟨bt26002.1, bt26002.2.1, bt26002.2.2.1⟩ : S49)]) t26001) else (none)) else (some (([] : List (S49)), 15)))) else (none)) else (none)) else (none)) = some (r1, r2) := H
                  have A10 := Aside0.mk A100
                  clear A100
                  obtain ⟨ji11, hji11⟩ : ∃ j_ : Int, (wrap64 (x5_2 + 1)) = j_ := ⟨_, rfl⟩
                  replace H : (if 0 ≤ (ji11) then (if (ji11) ≤ t26001 then (if t26001 ≤ (a0.size : Int) then ((tinderref07_step.f k2 (a0.extract ((ji11) : Int).toNat (t26001 : Int).toNat)).bind fun bt26002 => (if bt26002.2.2.2 = true then (if x4_2.length < 2513169434916 then (tinderref07_Parse.l0 k2 a0 (x4_2 ++ [(⟨bt26002.1, bt26002.2.1, bt26002.2.2.1⟩ : S49)]) t26001) else (none)) else (some (([] : List (S49)), 15)))) else (none)) else (none)) else (none)) = some (r1, r2) := by first | (rw [hji11] at H; exact H) | (simp only [hji11] at H ⊢; exact H)
                  (try rw [hji11] at A10)
                  have hji11w : (IntKind.i64.wrap (x5_2 + 1)) = ji11 := (i64_w _).trans hji11
                  by_cases c12 : 0 ≤ (ji11)
                  · rw [if_pos c12] at H
                    have c12b0 := eq_true c12
                    have c12b1 : decide (0 ≤ (ji11)) = true := decide_eq_true c12
                    clear c12
                    by_cases c13 : (ji11) ≤ t26001
                    · rw [if_pos c13] at H
                      have c13b0 := eq_true c13
                      have c13b1 : decide ((ji11) ≤ t26001) = true := decide_eq_true c13
                      clear c13
                      by_cases c14 : t26001 ≤ (a0.size : Int)
                      · rw [if_pos c14] at H
                        have c14b0 := eq_true c14
                        have c14b1 : decide (t26001 ≤ (a0.size : Int)) = true := decide_eq_true c14
                        clear c14
                        replace H := Option.bind_eq_some_iff.mp H
                        obtain ⟨⟨t26002, t26003, t26006, t26007⟩, A150, H⟩ := H
                        replace H : (if t26007 = true then (if x4_2.length < 2513169434916 then (tinderref07_Parse.l0 k2 a0 (x4_2 ++ [(⟨t26002, t26003, t26006⟩ : S49)]) t26001) else (none)) else (some (([] : List (S49)), 15))) = some (r1, r2) := H
                        have A15 := Aside0.mk A150
                        clear A150
                        by_cases c16 : t26007 = true
                        · subst c16
                          have H1 : (if x4_2.length < 2513169434916 then (tinderref07_Parse.l0 k2 a0 (x4_2 ++ [(⟨t26002, t26003, t26006⟩ : S49)]) t26001) else (none)) = some (r1, r2) := by rw [if_pos rfl] at H; exact H
                          clear H
                          have H := H1
                          clear H1
                          by_cases c17 : x4_2.length < 2513169434916
                          · rw [if_pos c17] at H
                            have LMc17 := Aside0.mk c17
                            clear c17
                            obtain ⟨y26009, hy26009⟩ : ∃ y_ : List (S49), y_ = (x4_2 ++ [(⟨t26002, t26003, t26006⟩ : S49)]) := ⟨_, rfl⟩
                            replace H : (tinderref07_Parse.l0 k2 a0 y26009 t26001) = some (r1, r2) := by first | (rw [hy26009]; with_reducible exact H) | (have H2_ := (Option.bind_some _ _).symm.trans H; rw [hy26009]; with_reducible exact H2_) | (have H2_ := (Option.bind_some _ _).symm.trans H; with_reducible exact H2_) | with_reducible exact H | (rw [hy26009]; exact H) | exact H
                            have Ny26009 := Aside0.mk hy26009
                            clear hy26009
                            have H' := Aside0.mk H
                            clear H
                            go_wp2_with (first | ((with_reducible refine gate_callee (f := 62) rfl ?_); refine goesL_ (some 28) rfl rfl Tryd.func62 (by kernel_rfl) rfl #[.string a0, .int .i64 ji11, .int .u8 47] rfl (by (try simp only [List.map_toArray, List.map_cons, List.map_nil]); first | done | (simp only [hji11]; rfl) | rfl | (simp only [List.length_drop, List.length_take]; rfl)) ?_; (with_reducible refine (tinderref07_Place.calls k2 a0 ji11 47 t26001 _ A10.out).mono ?_); rintro e w' ⟨rfl, ⟨nd, rfl⟩⟩; refine ⟨_, rfl, ?_⟩; (try (rw [drewN_self wr]; generalize hq_ : World.drewN wr _ = wr; have n0_ : Aside0 (Kd.S k49 49 wr w.heap.size (fun _ => True) u4 x4_2) := ⟨by rw [← hq_]; exact (by (with_reducible repeat (first | apply Kd.S_alloc | apply Kd.S_drewN | apply Kd.S_drew)); exact HO_4.out)⟩; have n1_ : Aside0 (Below w.heap.size w wr) := ⟨by rw [← hq_]; exact (by repeat (first | (with_reducible first | exact HB.out | apply below_alloc | apply pw_below_drewN | apply below_drew1) | exact HB.out))⟩; clear HO_4 HB hq_; have HO_4 := n0_; have HB := n1_; clear n0_ n1_))) | ((with_reducible refine gate_callee (f := 63) rfl ?_); refine goesL_ (some 35) rfl rfl Tryd.func63 (by kernel_rfl) rfl #[.string (a0.extract ((ji11) : Int).toNat (t26001 : Int).toNat)] rfl (by (try simp only [List.map_toArray, List.map_cons, List.map_nil]); first | done | (simp only [hji11]; rfl) | rfl | (simp only [List.length_drop, List.length_take]; rfl)) ?_; (with_reducible refine (tinderref07_step.calls k2 (a0.extract ((ji11) : Int).toNat (t26001 : Int).toNat) t26002 t26003 t26006 true _ A15.out).mono ?_); rintro e w18 ⟨v26004, rfl, ho0, hb⟩; refine ⟨_, rfl, ?_⟩; have n0_ := Aside0.mk (Kd.S_elder' (by (with_reducible repeat (first | apply Kd.S_alloc | apply Kd.S_drewN | apply Kd.S_drew)); exact HO_4.out) (Kd.R_base ho0) hb); have n1_ := Aside0.mk (Kd.R_lower ho0 (below_size (by repeat (first | (with_reducible first | exact HB.out | apply below_alloc | apply pw_below_drewN | apply below_drew1) | exact HB.out)))); have n2_ := Aside0.mk (below_step (by repeat (first | (with_reducible first | exact HB.out | apply below_alloc | apply pw_below_drewN | apply below_drew1) | exact HB.out)) hb); clear HO_4; clear HB; have HO_4 := n0_; have HO26005 := n1_; have HB := n2_; clear n0_ n1_ n2_; (try clear hb); (try clear hb2); (try clear hk); (try clear hi); (try clear ho0)) | ((with_reducible refine gate_dst (N := 7) rfl ?_); refine box_event ?hg (N := 7) ?hd (cs := #[.string (⟨#[]⟩ : ByteArray), .slice none 0 0, .string (⟨#[]⟩ : ByteArray)]) (t := 49) ?hr ?_; (case hd => rfl); (case hg => rfl); (case hr => first | (go_simp; done) | (go_simp; rfl)); intro gb26008 hg w19 hbox hb; have n0_ := Aside0.mk (Kd.S_below (Kd.S_elderB (by (with_reducible repeat (first | apply Kd.S_alloc | apply Kd.S_drewN | apply Kd.S_drew)); exact HO_4.out) gb26008 (Nat.le_of_eq hg.symm)) hb); have n1_ := Aside0.mk (Kd.R_below (by (with_reducible repeat (first | apply Kd.R_alloc | apply Kd.R_drewN | apply Kd.R_drew)); exact HO26005.out) hb); have n2_ := Aside0.mk (below_step (by repeat (first | (with_reducible first | exact HB.out | apply below_alloc | apply pw_below_drewN | apply below_drew1) | exact HB.out)) hb); have n3_ := Aside0.mk (hbox); have n4_ := Aside0.mk ((by rw [hg]; exact (below_size (by repeat (first | (with_reducible first | exact HB.out | apply below_alloc | apply pw_below_drewN | apply below_drew1) | exact HB.out))) : w.heap.size ≤ gb26008)); have n5_ := Aside0.mk ((by rw [hg]; exact (below_size (by repeat (first | (with_reducible first | exact HB.out | apply below_alloc | apply pw_below_drewN | apply below_drew1) | exact HB.out))) : w.heap.size ≤ gb26008)); clear HO_4; clear HO26005; clear HB; have HO_4 := n0_; have HO26005 := n1_; have HB := n2_; have BK26008 := n3_; have GW26008 := n4_; have GE26008 := n5_; clear n0_ n1_ n2_ n3_ n4_ n5_; clear hb hbox hg; have hcz20_0 : w19.cell? ⟨gb26008, 0, none⟩ = some (.string (⟨#[]⟩ : ByteArray)) := (blk_cell BK26008.out 0).trans rfl; have hcz20_1 : w19.cell? ⟨gb26008, 1, none⟩ = some (.slice none 0 0) := (blk_cell BK26008.out 1).trans rfl; have hcz20_2 : w19.cell? ⟨gb26008, 2, none⟩ = some (.string (⟨#[]⟩ : ByteArray)) := (blk_cell BK26008.out 2).trans rfl; have hfz20_0 := blk_frozen BK26008.out 0; have hfz20_1 := blk_frozen BK26008.out 1; have hfz20_2 := blk_frozen BK26008.out 2; obtain ⟨Ao21, co21, eo21⟩ := Kd.R_slice HO26005.out; subst eo21) | ((with_reducible refine gate_store (t := 49) (p := 7) rfl ?_); refine store_event (t := 49) (p := 7) (v := ?vo_w22) (w1 := (((w19.setCell ⟨gb26008, 0, none⟩ (.string t26002)).setCell ⟨gb26008, 1, none⟩ (.slice Ao21 t26003.length co21)).setCell ⟨gb26008, 2, none⟩ (.string t26006))) ?hg ?ho ?hn ?hr ?_; (case ho => rfl); (case hg => rfl); (case hn => rfl); (case hr => first | (go_simp; done) | (go_simp; rfl)); intro w22 hw; have n0_ : Aside0 (Kd.S k49 49 w22 w.heap.size (fun k_ => some k_ ≠ (.slice Ao21 t26003.length co21 : Value).ownBlock ∧ k_ ≠ gb26008) u4 x4_2) := ⟨(by rw [hw]; exact (by (with_reducible repeat (first | apply Kd.S_alloc | apply Kd.S_drewN | apply Kd.S_drew)); exact Kd.S_mono (Kd.S_far (p := ⟨gb26008, 2, none⟩) (Kd.S_far (p := ⟨gb26008, 1, none⟩) (Kd.S_far (p := ⟨gb26008, 0, none⟩) (Kd.S_mono HO_4.out (fun k_ hk => (⟨hk, hk.2⟩ : _ ∧ k_ ≠ gb26008))) (fun _ hk => hk.2) (.string t26002)) (fun _ hk => hk.2) (.slice Ao21 t26003.length co21)) (fun _ hk => hk.2) (.string t26006)) (fun _ hk => ⟨hk.1.1.2, hk.1.2⟩)))⟩; have n1_ : Aside0 (Kd.R (Kd.int .u32) 66 w22 w.heap.size (fun _ => True) (.slice Ao21 t26003.length co21) t26003) := ⟨(by rw [hw]; exact (by (with_reducible repeat (first | apply Kd.R_alloc | apply Kd.R_drewN | apply Kd.R_drew)); exact Kd.R_mono (Kd.R_far (p := ⟨gb26008, 2, none⟩) (Kd.R_far (p := ⟨gb26008, 1, none⟩) (Kd.R_far (p := ⟨gb26008, 0, none⟩) (Kd.R_types HO26005.out BK26008.out (by decide)) (fun _ hk => hk.2) (.string t26002)) (fun _ hk => hk.2) (.slice Ao21 t26003.length co21)) (fun _ hk => hk.2) (.string t26006)) (fun _ hk => trivial)))⟩; have n2_ : Aside0 (w22.heap[gb26008]? = some (.cells #[.string t26002, .slice Ao21 t26003.length co21, .string t26006] 49 (0, 0))) := ⟨(by rw [hw]; exact (by (with_reducible repeat (first | refine blk_drewN ?_ _ | refine blk_drew ?_ | refine blk_alloc ?_ _)); refine blk_put (cs := #[.string t26002, .slice Ao21 t26003.length co21, .string (⟨#[]⟩ : ByteArray)]) ?_ 2 _ rfl; (with_reducible repeat (first | refine blk_drewN ?_ _ | refine blk_drew ?_ | refine blk_alloc ?_ _)); refine blk_put (cs := #[.string t26002, .slice none 0 0, .string (⟨#[]⟩ : ByteArray)]) ?_ 1 _ rfl; (with_reducible repeat (first | refine blk_drewN ?_ _ | refine blk_drew ?_ | refine blk_alloc ?_ _)); refine blk_put (cs := #[.string (⟨#[]⟩ : ByteArray), .slice none 0 0, .string (⟨#[]⟩ : ByteArray)]) ?_ 0 _ rfl; (with_reducible repeat (first | refine blk_drewN ?_ _ | refine blk_drew ?_ | refine blk_alloc ?_ _)); exact BK26008.out))⟩; have n3_ : Aside0 (Below w.heap.size w w22) := ⟨(by rw [hw]; exact (by repeat (first | (with_reducible first | exact HB.out | apply below_alloc | apply pw_below_drewN | apply below_drew1 | refine below_set ?_ GE26008.out) | exact HB.out)))⟩; clear hw; clear HO_4; clear HO26005; clear BK26008; clear HB; have HO_4 := n0_; have HO26005 := n1_; have BK26008 := n2_; have HB := n3_; clear n0_ n1_ n2_ n3_; have hcz23_0 : w22.cell? ⟨gb26008, 0, none⟩ = some (.string t26002) := (blk_cell BK26008.out 0).trans rfl; have hcz23_1 : w22.cell? ⟨gb26008, 1, none⟩ = some (.slice Ao21 t26003.length co21) := (blk_cell BK26008.out 1).trans rfl; have hcz23_2 : w22.cell? ⟨gb26008, 2, none⟩ = some (.string t26006) := (blk_cell BK26008.out 2).trans rfl; have hfz23_0 := blk_frozen BK26008.out 0; have hfz23_1 := blk_frozen BK26008.out 1; have hfz23_2 := blk_frozen BK26008.out 2) | ((with_reducible refine gate_builtin (b := .append) (xs := #[.tmp 40, .tmp 42]) rfl ?_); at_builtin; refine Kd.S_append k49 (w0 := w) w.heap.size rfl (.tmp 40) (.tmp 42) 36 49 (.agg #[(.string ⟨#[]⟩), (.slice none 0 0), (.string ⟨#[]⟩)]) 56 rfl Tryd.underlying36 info49 rfl (by decide) (by omega) u4 x4_2 (⟨t26002, t26003, t26006⟩ : S49) [.string t26002, .slice Ao21 t26003.length co21, .string t26006] (fun k_ => k_ ≠ gb26008) (fun k_ => some k_ = (.slice Ao21 t26003.length co21 : Value).ownBlock) rfl rfl ?aP (fun k_ hk_ => ((Kd.R_mono (ok' := fun k_ => ((fun k_ => k_ ≠ gb26008)) k_ ∧ some k_ ≠ (u4 : Value).ownBlock) (Kd.R_types (Kd.R_apart' (HO26005.out) (Kd.S_typed HO_4.out) (by decide)) BK26008.out (by decide)) (fun k_ hk => ⟨hk.2, hk.1.2⟩))).1 k_ hk_.symm) ?aF ?aO ?aB ?aS ?aL ?_; (case aP => exact k49_mkM _ _ _ (⟨t26002, t26003, t26006⟩ : S49) (Kd.R_mono (Kd.R_tight rfl (Kd.R_mono (ok' := fun k_ => ((fun k_ => k_ ≠ gb26008)) k_ ∧ some k_ ≠ (u4 : Value).ownBlock) (Kd.R_types (Kd.R_apart' (HO26005.out) (Kd.S_typed HO_4.out) (by decide)) BK26008.out (by decide)) (fun k_ hk => ⟨hk.2, hk.1.2⟩))) (fun _ h_ => h_))); (case aB => exact (by repeat (first | (with_reducible first | exact HB.out | apply below_alloc | apply pw_below_drewN | apply below_drew1 | refine below_set ?_ GE26008.out) | exact HB.out))); (case aF => exact (fun k_ hk => Kd.freshB (g := gb26008) (o := .cells #[.string t26002, .slice Ao21 t26003.length co21, .string t26006] 49 (0, 0)) (by (with_reducible repeat (first | refine blk_drewN ?_ _ | refine blk_drew ?_ | refine blk_alloc ?_ _)); exact BK26008.out) k_ hk)); (case aO => exact (by (with_reducible repeat (first | apply Kd.S_alloc | apply Kd.S_drewN | apply Kd.S_drew)); exact Kd.S_mono HO_4.out (fun k_ hk => ⟨hk.2, fun e_ => hk.1 e_⟩))); (case aS => exact (below_size (by repeat (first | (with_reducible first | exact HB.out | apply below_alloc | apply pw_below_drewN | apply below_drew1 | refine below_set ?_ GE26008.out) | exact HB.out)))); (case aL => have := LMc17.out; omega); intro v26010 w24 ho hb hg hat; rw [← Ny26009.out] at ho; have n0_ := Aside0.mk (blk_grown (g := gb26008) (o := .cells #[.string t26002, .slice Ao21 t26003.length co21, .string t26006] 49 (0, 0)) (by (with_reducible repeat (first | refine blk_drewN ?_ _ | refine blk_drew ?_ | refine blk_alloc ?_ _)); exact BK26008.out) hg (Kd.S_away HO_4.out (fun _ hk => hk.2))); have n1_ := Aside0.mk (hb); have n2_ := Aside0.mk (ho); clear BK26008; clear HB; clear HO_4; clear HO26005; have BK26008 := n0_; have HB := n1_; have HO26011 := n2_; clear n0_ n1_ n2_; clear ho hb hg hat))
                            go_roundg k2
                            case measure => have := HJ3.out; have := HK2.out; omega
                            case rel => exact ⟨(y26009), (t26001), (by first | rfl | (simp; done) | (simp [*]; done)), H', ⟨by have := HJ3.out; have := HK2.out; omega⟩, ⟨by (with_reducible repeat (first | apply Kd.S_alloc | apply Kd.S_drewN | apply Kd.S_drew)); exact Kd.S_mono HO26011.out (fun _ hk => trivial)⟩, ⟨by repeat (first | (with_reducible first | exact HB.out | apply below_alloc | apply pw_below_drewN | apply below_drew1 | refine below_set ?_ GE26008.out) | exact HB.out)⟩⟩
                          · rw [if_neg c17] at H
                            exact absurd H (by simp)
                        · replace c16 := Bool.eq_false_iff.mpr c16
                          subst c16
                          have H1 : (some (([] : List (S49)), 15)) = some (r1, r2) := by rw [if_neg (show ¬ (false = true) by decide)] at H; exact H
                          clear H
                          have H := H1
                          clear H1
                          simp only [Option.some.injEq, Prod.mk.injEq] at H
                          obtain ⟨rfl, rfl⟩ := H
                          go_wp2_with (first | ((with_reducible refine gate_callee (f := 62) rfl ?_); refine goesL_ (some 28) rfl rfl Tryd.func62 (by kernel_rfl) rfl #[.string a0, .int .i64 ji11, .int .u8 47] rfl (by (try simp only [List.map_toArray, List.map_cons, List.map_nil]); first | done | (simp only [hji11]; rfl) | rfl | (simp only [List.length_drop, List.length_take]; rfl)) ?_; (with_reducible refine (tinderref07_Place.calls k2 a0 ji11 47 t26001 _ A10.out).mono ?_); rintro e w' ⟨rfl, ⟨nd, rfl⟩⟩; refine ⟨_, rfl, ?_⟩; (try (rw [drewN_self wr]; generalize hq_ : World.drewN wr _ = wr; have n0_ : Aside0 (Kd.S k49 49 wr w.heap.size (fun _ => True) u4 x4_2) := ⟨by rw [← hq_]; exact (by (with_reducible repeat (first | apply Kd.S_alloc | apply Kd.S_drewN | apply Kd.S_drew)); exact HO_4.out)⟩; have n1_ : Aside0 (Below w.heap.size w wr) := ⟨by rw [← hq_]; exact (by repeat (first | (with_reducible first | exact HB.out | apply below_alloc | apply pw_below_drewN | apply below_drew1) | exact HB.out))⟩; clear HO_4 HB hq_; have HO_4 := n0_; have HB := n1_; clear n0_ n1_))) | ((with_reducible refine gate_callee (f := 63) rfl ?_); refine goesL_ (some 35) rfl rfl Tryd.func63 (by kernel_rfl) rfl #[.string (a0.extract ((ji11) : Int).toNat (t26001 : Int).toNat)] rfl (by (try simp only [List.map_toArray, List.map_cons, List.map_nil]); first | done | (simp only [hji11]; rfl) | rfl | (simp only [List.length_drop, List.length_take]; rfl)) ?_; (with_reducible refine (tinderref07_step.calls k2 (a0.extract ((ji11) : Int).toNat (t26001 : Int).toNat) t26002 t26003 t26006 false _ A15.out).mono ?_); rintro e w25 ⟨v26004, rfl, ho0, hb⟩; refine ⟨_, rfl, ?_⟩; have n0_ := Aside0.mk (Kd.S_elder' (by (with_reducible repeat (first | apply Kd.S_alloc | apply Kd.S_drewN | apply Kd.S_drew)); exact HO_4.out) (Kd.R_base ho0) hb); have n1_ := Aside0.mk (Kd.R_lower ho0 (below_size (by repeat (first | (with_reducible first | exact HB.out | apply below_alloc | apply pw_below_drewN | apply below_drew1) | exact HB.out)))); have n2_ := Aside0.mk (below_step (by repeat (first | (with_reducible first | exact HB.out | apply below_alloc | apply pw_below_drewN | apply below_drew1) | exact HB.out)) hb); clear HO_4; clear HB; have HO_4 := n0_; have HO26005 := n1_; have HB := n2_; clear n0_ n1_ n2_; (try clear hb); (try clear hb2); (try clear hk); (try clear hi); (try clear ho0)) | ((with_reducible refine gate_dst (N := 7) rfl ?_); refine box_event ?hg (N := 7) ?hd (cs := #[.string (⟨#[]⟩ : ByteArray), .slice none 0 0, .string (⟨#[]⟩ : ByteArray)]) (t := 49) ?hr ?_; (case hd => rfl); (case hg => rfl); (case hr => first | (go_simp; done) | (go_simp; rfl)); intro gb26008 hg w26 hbox hb; have n0_ := Aside0.mk (Kd.S_below (Kd.S_elderB (by (with_reducible repeat (first | apply Kd.S_alloc | apply Kd.S_drewN | apply Kd.S_drew)); exact HO_4.out) gb26008 (Nat.le_of_eq hg.symm)) hb); have n1_ := Aside0.mk (Kd.R_below (by (with_reducible repeat (first | apply Kd.R_alloc | apply Kd.R_drewN | apply Kd.R_drew)); exact HO26005.out) hb); have n2_ := Aside0.mk (below_step (by repeat (first | (with_reducible first | exact HB.out | apply below_alloc | apply pw_below_drewN | apply below_drew1) | exact HB.out)) hb); have n3_ := Aside0.mk (hbox); have n4_ := Aside0.mk ((by rw [hg]; exact (below_size (by repeat (first | (with_reducible first | exact HB.out | apply below_alloc | apply pw_below_drewN | apply below_drew1) | exact HB.out))) : w.heap.size ≤ gb26008)); have n5_ := Aside0.mk ((by rw [hg]; exact (below_size (by repeat (first | (with_reducible first | exact HB.out | apply below_alloc | apply pw_below_drewN | apply below_drew1) | exact HB.out))) : w.heap.size ≤ gb26008)); clear HO_4; clear HO26005; clear HB; have HO_4 := n0_; have HO26005 := n1_; have HB := n2_; have BK26008 := n3_; have GW26008 := n4_; have GE26008 := n5_; clear n0_ n1_ n2_ n3_ n4_ n5_; clear hb hbox hg; have hcz27_0 : w26.cell? ⟨gb26008, 0, none⟩ = some (.string (⟨#[]⟩ : ByteArray)) := (blk_cell BK26008.out 0).trans rfl; have hcz27_1 : w26.cell? ⟨gb26008, 1, none⟩ = some (.slice none 0 0) := (blk_cell BK26008.out 1).trans rfl; have hcz27_2 : w26.cell? ⟨gb26008, 2, none⟩ = some (.string (⟨#[]⟩ : ByteArray)) := (blk_cell BK26008.out 2).trans rfl; have hfz27_0 := blk_frozen BK26008.out 0; have hfz27_1 := blk_frozen BK26008.out 1; have hfz27_2 := blk_frozen BK26008.out 2; obtain ⟨Ao28, co28, eo28⟩ := Kd.R_slice HO26005.out; subst eo28))
                          go_ret2
                          exact ⟨_, by first | rfl | (simp [errW_none, errW_some] <;> rfl) | (simp only [← hji11]; first | rfl | (simp [errW_none, errW_some] <;> rfl)) | (simp [*, errW_none, errW_some] <;> rfl), by first | exact Kd.S_nil _ _ _ _ _ | exact Kd.N_nil _ _ _ _ _ | exact Kd.V_nil _ _ _ _ _ | exact Kd.Q_nil _ _ _ _ _ | exact Kd.R_nil _ _ _ _ _, by repeat (first | (with_reducible first | exact HB.out | apply below_alloc | apply pw_below_drewN | apply below_drew1 | refine below_set ?_ GE26008.out) | exact HB.out)⟩
                      · rw [if_neg c14] at H
                        exact absurd H (by simp)
                    · rw [if_neg c13] at H
                      exact absurd H (by simp)
                  · rw [if_neg c12] at H
                    exact absurd H (by simp)
                · rw [if_neg c9] at H
                  have c9b0 : decide (x5_2 < (a0.size : Int)) = false := decide_eq_false c9
                  clear c9
                  simp only [Option.some.injEq, Prod.mk.injEq] at H
                  obtain ⟨rfl, rfl⟩ := H
                  go_wp2
                  go_ret2
                  exact ⟨_, by first | rfl | (simp [errW_none, errW_some] <;> rfl) | (simp [*, errW_none, errW_some] <;> rfl), by (with_reducible repeat (first | apply Kd.S_alloc | apply Kd.S_drewN | apply Kd.S_drew)); exact HO_4.out, by repeat (first | (with_reducible first | exact HB.out | apply below_alloc | apply pw_below_drewN | apply below_drew1) | exact HB.out)⟩

end Go.Proofs.YtnalcjgefbelnaaDoor.Q
end
