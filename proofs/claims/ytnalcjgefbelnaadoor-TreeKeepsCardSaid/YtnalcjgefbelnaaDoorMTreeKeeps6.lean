/- Contracts of Go functions and plain facts, of several texts, one behind the other; no condition. -/
import Derived.Test.YtnalcjgefbelnaaDoorMTreeKeeps2
import Derived.Test.YtnalcjgefbelnaaDoorMTreeKeeps5
import Derived.Test.YtnalcjgefbelnaaDoorMTreeKeeps3
import Derived.ChangeArms
import Derived.OpenShut
import Derived.SizedLaws
section
namespace Go.Proofs.YtnalcjgefbelnaaDoor.Q
open Go.RowKit Go.Proofs.YtnalcjgefbelnaaDoorW.PrintWords Go.Proofs.YtnalcjgefbelnaaDoorW.PrintLast Go.Proofs.YtnalcjgefbelnaaDoorW.PrintMore
set_option linter.unusedVariables false
set_option linter.unusedSimpArgs false

attribute [local go_sem] max2_int min2_int max_two min_two max_three min_three max_four min_four
/-! ### tinderlaw08_TreeKeeps: function 10 -/
mutual
def tinderlaw08_TreeKeeps.j0 : Nat → ByteArray → List (S44) → Bool → List (S44) → Int → ByteArray → List Int → Option (Bool)
  | 0, _, _, _, _, _, _, _ => none
  | k + 1, x1, x5, x54, x11002000, x11002001, x11002002, x11002003 => if x54 = true then (some false) else (if x1.toList = x11002002.toList then (tinderlaw08_TreeKeeps.j1 k x5 x11002000 x11002001 x11002002 x11002003) else ((tree_Get.f x11002000 x11002001 x1).bind fun bt11012 => ((tree_Get.f x5 x11002001 x1).bind fun bt11016 => (if bt11012.2 = bt11016.2 then ((tinderref04_Same.f bt11012.1 bt11016.1).bind fun t11020 => (if t11020 = true then (tinderlaw08_TreeKeeps.j1 k x5 x11002000 x11002001 x11002002 x11002003) else (some false))) else (some false)))))
def tinderlaw08_TreeKeeps.j1 : Nat → List (S44) → List (S44) → Int → ByteArray → List Int → Option (Bool)
  | 0, _, _, _, _, _ => none
  | k + 1, x5, x11002000, x11002001, x11002002, x11002003 => tinderlaw08_TreeKeeps.l0 k x5 0 x11002000 x11002001 x11002002 x11002003
def tinderlaw08_TreeKeeps.l0 : Nat → List (S44) → Int → List (S44) → Int → ByteArray → List Int → Option (Bool)
  | 0, _, _, _, _, _, _ => none
  | k + 1, x5, x13, x11002000, x11002001, x11002002, x11002003 => if x13 < (x5.length : Int) then (if x13 = x11002001 then (tinderlaw08_TreeKeeps.l0 k x5 (wrap64 (x13 + 1)) x11002000 x11002001 x11002002 x11002003) else (if 0 ≤ x13 then (if x13 < (x11002000.length : Int) then ((tinderref08_SameNode.f k ((rd_T44 x5 x13).f0) ((rd_T44 x5 x13).f1) ((rd_T44 x5 x13).f2) ((rd_T44 x5 x13).f3) ((rd_T44 x5 x13).f4) ((rd_T44 x11002000 x13).f0) ((rd_T44 x11002000 x13).f1) ((rd_T44 x11002000 x13).f2) ((rd_T44 x11002000 x13).f3) ((rd_T44 x11002000 x13).f4)).bind fun t11023 => (if t11023 = true then (tinderlaw08_TreeKeeps.l0 k x5 (wrap64 (x13 + 1)) x11002000 x11002001 x11002002 x11002003) else (some false))) else (none)) else (none))) else ((tree_Drop.f x5 x11002001 x11002002).bind fun bt11024 => ((tree_Get.f bt11024.1 x11002001 x11002002).bind fun bt11028 => (if bt11024.2 = 0 then (some (bt11028.2 == 2)) else (some false))))
end
def tinderlaw08_TreeKeeps.f (k : Nat) (l0_0 : List (S44)) (a0_1 : Int) (a0_2 : ByteArray) (l0_3 : List Int) (a1 : ByteArray) : Option (Bool) := (tinderlaw08_alive.f).bind fun t11002 => (if t11002 = true then ((tree_Set.f l0_0 a0_1 a0_2 l0_3).bind fun bt11003 => (if bt11003.2 = 0 then ((tree_Get.f bt11003.1 a0_1 a0_2).bind fun bt11007 => (if bt11007.2 = 0 then ((tinderref04_Same.f bt11007.1 l0_3).bind fun t11011 => (tinderlaw08_TreeKeeps.j0 k a1 bt11003.1 (!t11011) l0_0 a0_1 a0_2 l0_3)) else (tinderlaw08_TreeKeeps.j0 k a1 bt11003.1 true l0_0 a0_1 a0_2 l0_3))) else (some ((bt11003.1.length : Int) == 0)))) else (some false))
def tinderlaw08_TreeKeeps.T17 : Bool × List (List Nat × List Nat) := (true, [([], []), ([], []), ([1], [1]), ([0, 2], [0, 2]), ([3], [3]), ([4], [4]), ([4], [4]), ([5, 6, 4], [4, 5, 6]), ([7, 4], [4, 7]), ([4], [4]), ([9, 4], [4, 9]), ([4], [4]), ([10, 11, 4], [4, 10, 11]), ([12, 4], [4, 12]), ([8, 13, 4, 4], [4, 8, 13]), ([14, 4], [4, 14]), ([4, 15], [4, 15])])
def tinderlaw08_TreeKeeps.B17 : List Nat := [0, 0, 2, 7, 15, 31, 31, 127, 255, 31, 543, 31, 3615, 7711, 16383, 32767, 65535]
theorem tinderlaw08_TreeKeeps.tab17 : rtab .any (opsOf Tryd.f10 17) = tinderlaw08_TreeKeeps.T17 := by kernel_rfl
theorem tinderlaw08_TreeKeeps.bits17 : waitsOk tinderlaw08_TreeKeeps.T17.2 tinderlaw08_TreeKeeps.B17 = true := by kernel_rfl
set_option maxHeartbeats 8000000 in
set_option maxRecDepth 100000 in
theorem tinderlaw08_TreeKeeps.calls (k : Nat) (A0_0 : Option Addr) (c0_0 : Nat) (l0_0 : List (S44)) (a0_1 : Int) (a0_2 : ByteArray) (A0_3 : Option Addr) (c0_3 : Nat) (l0_3 : List Int) (a1 : ByteArray) (r : Bool) (w : World) (ht : QB.Tabs w) (hr0_0 : Kd.C k44 w A0_0 l0_0.length l0_0) (hc0_0 : l0_0.length ≤ c0_0) (hr0_3 : Kd.C (Kd.int .u8) w A0_3 l0_3.length l0_3) (hc0_3 : l0_3.length ≤ c0_3) (h : tinderlaw08_TreeKeeps.f k l0_0 a0_1 a0_2 l0_3 a1 = some r) :
    Calls Tryd.prog 10 #[.agg #[.slice A0_0 l0_0.length c0_0, .int .i64 a0_1, .string a0_2, .slice A0_3 l0_3.length c0_3], .string a1] w fun e w' => e = .returned (.bool r) ∧ Below w.heap.size w w' := by
  have hu30 := Tryd.underlying30
  have hu44 := Tryd.underlying44
  have HR0_0 := Aside0.mk hr0_0
  have HC0_0 := Aside0.mk hc0_0
  clear hr0_0 hc0_0
  have HR0_3 := Aside0.mk hr0_3
  have HC0_3 := Aside0.mk hc0_3
  clear hr0_3 hc0_3
  have HB := Aside0.mk (Below.refl w.heap.size w)
  have H : ((tinderlaw08_alive.f).bind fun t11002 => (if t11002 = true then ((tree_Set.f l0_0 a0_1 a0_2 l0_3).bind fun bt11003 => (if bt11003.2 = 0 then ((tree_Get.f bt11003.1 a0_1 a0_2).bind fun bt11007 => (if bt11007.2 = 0 then ((tinderref04_Same.f bt11007.1 l0_3).bind fun t11011 => (tinderlaw08_TreeKeeps.j0 k a1 bt11003.1 (!t11011) l0_0 a0_1 a0_2 l0_3)) else (tinderlaw08_TreeKeeps.j0 k a1 bt11003.1 true l0_0 a0_1 a0_2 l0_3))) else (some ((bt11003.1.length : Int) == 0)))) else (some false))) = some r := h
  clear h
  replace H := Option.bind_eq_some_iff.mp H
  obtain ⟨t11002, A30, H⟩ := H
  replace H : (if t11002 = true then ((tree_Set.f l0_0 a0_1 a0_2 l0_3).bind fun bt11003 => (if bt11003.2 = 0 then ((tree_Get.f bt11003.1 a0_1 a0_2).bind fun bt11007 => (if bt11007.2 = 0 then ((tinderref04_Same.f bt11007.1 l0_3).bind fun t11011 => (tinderlaw08_TreeKeeps.j0 k a1 bt11003.1 (!t11011) l0_0 a0_1 a0_2 l0_3)) else (tinderlaw08_TreeKeeps.j0 k a1 bt11003.1 true l0_0 a0_1 a0_2 l0_3))) else (some ((bt11003.1.length : Int) == 0)))) else (some false)) = some r := H
  have A3 := Aside0.mk A30
  clear A30
  by_cases c4 : t11002 = true
  · subst c4
    have H1 : ((tree_Set.f l0_0 a0_1 a0_2 l0_3).bind fun bt11003 => (if bt11003.2 = 0 then ((tree_Get.f bt11003.1 a0_1 a0_2).bind fun bt11007 => (if bt11007.2 = 0 then ((tinderref04_Same.f bt11007.1 l0_3).bind fun t11011 => (tinderlaw08_TreeKeeps.j0 k a1 bt11003.1 (!t11011) l0_0 a0_1 a0_2 l0_3)) else (tinderlaw08_TreeKeeps.j0 k a1 bt11003.1 true l0_0 a0_1 a0_2 l0_3))) else (some ((bt11003.1.length : Int) == 0)))) = some r := by rw [if_pos rfl] at H; exact H
    clear H
    have H := H1
    clear H1
    replace H := Option.bind_eq_some_iff.mp H
    obtain ⟨⟨t11003, t11004⟩, A50, H⟩ := H
    replace H : (if t11004 = 0 then ((tree_Get.f t11003 a0_1 a0_2).bind fun bt11007 => (if bt11007.2 = 0 then ((tinderref04_Same.f bt11007.1 l0_3).bind fun t11011 => (tinderlaw08_TreeKeeps.j0 k a1 t11003 (!t11011) l0_0 a0_1 a0_2 l0_3)) else (tinderlaw08_TreeKeeps.j0 k a1 t11003 true l0_0 a0_1 a0_2 l0_3))) else (some ((t11003.length : Int) == 0))) = some r := H
    have A5 := Aside0.mk A50
    clear A50
    by_cases c6 : t11004 = 0
    · rw [if_pos c6] at H
      have c6b0 : (t11004 == 0) = true := beq_iff_eq.mpr c6
      have c6b1 : (t11004 != 0) = false := bne_eq_false_iff_eq.mpr c6
      clear c6
      replace H := Option.bind_eq_some_iff.mp H
      obtain ⟨⟨t11007, t11008⟩, A70, H⟩ := H
      replace H : (if t11008 = 0 then ((tinderref04_Same.f t11007 l0_3).bind fun t11011 => (tinderlaw08_TreeKeeps.j0 k a1 t11003 (!t11011) l0_0 a0_1 a0_2 l0_3)) else (tinderlaw08_TreeKeeps.j0 k a1 t11003 true l0_0 a0_1 a0_2 l0_3)) = some r := H
      have A7 := Aside0.mk A70
      clear A70
      have HC8 := Aside0.mk H
      clear H
      go_enter Tryd.func10, Tryd.ntmps10
      go_upto_region 7 with (first | ((with_reducible refine gate_dst (N := 2) rfl ?_); refine box_event ?hg (N := 2) ?hd (cs := #[.slice A0_0 l0_0.length c0_0, .int .i64 a0_1, .string a0_2, .slice A0_3 l0_3.length c0_3]) (t := 30) ?hr ?_; (case hd => rfl); (case hg => rfl); (case hr => first | (go_simp; done) | (go_simp; rfl)); intro gb11001 hg w9 hbox hb; have n0_ := Aside0.mk (below_step (by repeat (first | (with_reducible first | exact HB.out | apply below_alloc | apply pw_below_drewN | apply below_drew1) | exact HB.out)) hb); have n1_ := Aside0.mk (hbox); have n2_ := Aside0.mk ((by rw [hg]; exact (below_size (by repeat (first | (with_reducible first | exact HB.out | apply below_alloc | apply pw_below_drewN | apply below_drew1) | exact HB.out))) : w.heap.size ≤ gb11001)); have n3_ := Aside0.mk ((by rw [hg]; exact (below_size (by repeat (first | (with_reducible first | exact HB.out | apply below_alloc | apply pw_below_drewN | apply below_drew1) | exact HB.out))) : w.heap.size ≤ gb11001)); clear HB; have HB := n0_; have BK11001 := n1_; have GW11001 := n2_; have GE11001 := n3_; clear n0_ n1_ n2_ n3_; clear hb hbox hg) | ((with_reducible refine gate_callee (f := 11) rfl ?_); refine goesL_ (some 18) rfl rfl Tryd.func11 (by kernel_rfl) rfl #[] rfl (by (try simp only [List.map_toArray, List.map_cons, List.map_nil]); first | done | rfl | (simp only [List.length_drop, List.length_take]; rfl)) ?_; (with_reducible refine (tinderlaw08_alive.calls  true _ (QB.Tabs.below ht (by repeat (first | (with_reducible first | exact HB.out | apply below_alloc | apply pw_below_drewN | apply below_drew1 | refine below_set ?_ (Aside0.out (by assumption))) | exact HB.out))) A3.out).mono ?_); rintro e w10 ⟨rfl, hb⟩; refine ⟨_, rfl, ?_⟩; have n0_ := Aside0.mk (blk_below (g := gb11001) (o := .cells #[.slice A0_0 l0_0.length c0_0, .int .i64 a0_1, .string a0_2, .slice A0_3 l0_3.length c0_3] 30 (0, 0)) (by (with_reducible repeat (first | refine blk_drewN ?_ _ | refine blk_drew ?_ | refine blk_alloc ?_ _)); exact BK11001.out) hb); have n1_ := Aside0.mk (below_step (by repeat (first | (with_reducible first | exact HB.out | apply below_alloc | apply pw_below_drewN | apply below_drew1 | refine below_set ?_ GE11001.out) | exact HB.out)) hb); clear BK11001; clear HB; have BK11001 := n0_; have HB := n1_; clear n0_ n1_; (try clear hb); (try clear hb2); (try clear hk); (try clear hi); have hcz11_0 : w10.cell? ⟨gb11001, 0, none⟩ = some (.slice A0_0 l0_0.length c0_0) := (blk_cell BK11001.out 0).trans rfl; have hcz11_1 : w10.cell? ⟨gb11001, 1, none⟩ = some (.int .i64 a0_1) := (blk_cell BK11001.out 1).trans rfl; have hcz11_2 : w10.cell? ⟨gb11001, 2, none⟩ = some (.string a0_2) := (blk_cell BK11001.out 2).trans rfl; have hcz11_3 : w10.cell? ⟨gb11001, 3, none⟩ = some (.slice A0_3 l0_3.length c0_3) := (blk_cell BK11001.out 3).trans rfl; have hfz11_0 := blk_frozen BK11001.out 0; have hfz11_1 := blk_frozen BK11001.out 1; have hfz11_2 := blk_frozen BK11001.out 2; have hfz11_3 := blk_frozen BK11001.out 3) | ((with_reducible refine gate_callee (f := 35) rfl ?_); refine goesL_ (some 29) rfl rfl Tryd.func35 (by kernel_rfl) rfl #[.slice A0_0 l0_0.length c0_0, .int .i64 a0_1, .string a0_2, .slice A0_3 l0_3.length c0_3] rfl (by (try simp only [List.map_toArray, List.map_cons, List.map_nil]); first | done | rfl | (simp only [List.length_drop, List.length_take]; rfl)) ?_; (with_reducible refine (tree_Set.calls _ _ l0_0 a0_1 a0_2 _ _ l0_3 t11003 t11004 _ ?side1 ?side2 ?side3 ?side4 A5.out).mono ?_); (case side1 => repeat (first | exact (Kd.C_below HR0_0.out HB.out) | (with_reducible refine Kd.C_alloc ?_ _) | (with_reducible refine Kd.C_drewN ?_ _) | (with_reducible refine Kd.C_drew ?_))); (case side2 => exact HC0_0.out); (case side3 => repeat (first | exact (Kd.C_below HR0_3.out HB.out) | (with_reducible refine Kd.C_alloc ?_ _) | (with_reducible refine Kd.C_drewN ?_ _) | (with_reducible refine Kd.C_drew ?_))); (case side4 => exact HC0_3.out); rintro e w12 ⟨v11005, rfl, ho0, hb⟩; refine ⟨_, rfl, ?_⟩; have n0_ := Aside0.mk (Kd.R_lower ho0 (below_size (by repeat (first | (with_reducible first | exact HB.out | apply below_alloc | apply pw_below_drewN | apply below_drew1 | refine below_set ?_ GE11001.out) | exact HB.out)))); have n1_ := Aside0.mk (blk_below (g := gb11001) (o := .cells #[.slice A0_0 l0_0.length c0_0, .int .i64 a0_1, .string a0_2, .slice A0_3 l0_3.length c0_3] 30 (0, 0)) (by (with_reducible repeat (first | refine blk_drewN ?_ _ | refine blk_drew ?_ | refine blk_alloc ?_ _)); exact BK11001.out) hb); have n2_ := Aside0.mk (below_step (by repeat (first | (with_reducible first | exact HB.out | apply below_alloc | apply pw_below_drewN | apply below_drew1 | refine below_set ?_ GE11001.out) | exact HB.out)) hb); clear BK11001; clear HB; have HO11006 := n0_; have BK11001 := n1_; have HB := n2_; clear n0_ n1_ n2_; (try clear hb); (try clear hb2); (try clear hk); (try clear hi); (try clear ho0); have hcz13_0 : w12.cell? ⟨gb11001, 0, none⟩ = some (.slice A0_0 l0_0.length c0_0) := (blk_cell BK11001.out 0).trans rfl; have hcz13_1 : w12.cell? ⟨gb11001, 1, none⟩ = some (.int .i64 a0_1) := (blk_cell BK11001.out 1).trans rfl; have hcz13_2 : w12.cell? ⟨gb11001, 2, none⟩ = some (.string a0_2) := (blk_cell BK11001.out 2).trans rfl; have hcz13_3 : w12.cell? ⟨gb11001, 3, none⟩ = some (.slice A0_3 l0_3.length c0_3) := (blk_cell BK11001.out 3).trans rfl; have hfz13_0 := blk_frozen BK11001.out 0; have hfz13_1 := blk_frozen BK11001.out 1; have hfz13_2 := blk_frozen BK11001.out 2; have hfz13_3 := blk_frozen BK11001.out 3; obtain ⟨Ao14, co14, eo14⟩ := Kd.R_slice HO11006.out; subst eo14) | ((with_reducible refine gate_callee (f := 28) rfl ?_); refine goesL_ (some 43) rfl rfl Tryd.func28 (by kernel_rfl) rfl #[.slice Ao14 t11003.length co14, .int .i64 a0_1, .string a0_2] rfl (by (try simp only [List.map_toArray, List.map_cons, List.map_nil]); first | done | rfl | (simp only [List.length_drop, List.length_take]; rfl)) ?_; (with_reducible refine (tree_Get.calls _ _ t11003 a0_1 a0_2 t11007 t11008 _ ?side1 ?side2 A7.out).mono ?_); (case side1 => repeat (first | exact (Kd.R_reads' HO11006.out).2.2 | (with_reducible refine Kd.C_alloc ?_ _) | (with_reducible refine Kd.C_drewN ?_ _) | (with_reducible refine Kd.C_drew ?_))); (case side2 => exact (Kd.R_reads' HO11006.out).2.1); rintro e w15 ⟨v11009, rfl, ho0, hb⟩; refine ⟨_, rfl, ?_⟩; have n0_ := Aside0.mk (Kd.R_elder' (by (with_reducible repeat (first | apply Kd.R_alloc | apply Kd.R_drewN | apply Kd.R_drew)); exact HO11006.out) (Kd.R_base ho0) hb); have n1_ := Aside0.mk (Kd.R_lower ho0 (below_size (by repeat (first | (with_reducible first | exact HB.out | apply below_alloc | apply pw_below_drewN | apply below_drew1 | refine below_set ?_ GE11001.out) | exact HB.out)))); have n2_ := Aside0.mk (blk_below (g := gb11001) (o := .cells #[.slice A0_0 l0_0.length c0_0, .int .i64 a0_1, .string a0_2, .slice A0_3 l0_3.length c0_3] 30 (0, 0)) (by (with_reducible repeat (first | refine blk_drewN ?_ _ | refine blk_drew ?_ | refine blk_alloc ?_ _)); exact BK11001.out) hb); have n3_ := Aside0.mk (below_step (by repeat (first | (with_reducible first | exact HB.out | apply below_alloc | apply pw_below_drewN | apply below_drew1 | refine below_set ?_ GE11001.out) | exact HB.out)) hb); clear HO11006; clear BK11001; clear HB; have HO11006 := n0_; have HO11010 := n1_; have BK11001 := n2_; have HB := n3_; clear n0_ n1_ n2_ n3_; (try clear hb); (try clear hb2); (try clear hk); (try clear hi); (try clear ho0)))
      (try simp only [Act.put, List.setIfInBounds_toArray, List.set_cons_zero, List.set_cons_succ])
      go_cut [54] (fun v54 wc => ∃ (kq : Nat) (x54_7 : Bool), v54 = .bool x54_7 ∧ Aside0 (tinderlaw08_TreeKeeps.j0 kq a1 t11003 x54_7 l0_0 a0_1 a0_2 l0_3 = some r) ∧ Aside0 (kq ≤ k) ∧ Aside0 (Kd.R k44 44 wc w.heap.size (fun _ => True) (.slice Ao14 t11003.length co14) t11003) ∧ Aside0 (wc.heap[gb11001]? = some (.cells #[(.slice A0_0 l0_0.length c0_0), .int .i64 a0_1, .string a0_2, (.slice A0_3 l0_3.length c0_3)] 30 (0, 0))) ∧ Aside0 (Below w.heap.size w wc))
      case first =>
        have H := HC8.out
        clear HC8
        by_cases c16 : t11008 = 0
        · rw [if_pos c16] at H
          have c16b0 : (t11008 == 0) = true := beq_iff_eq.mpr c16
          have c16b1 : (t11008 != 0) = false := bne_eq_false_iff_eq.mpr c16
          clear c16
          (first | rw [c16b0] | (simp only [i64_w, i32_w]; rw [c16b0]) | skip)
          replace H := Option.bind_eq_some_iff.mp H
          obtain ⟨t11011, A170, H⟩ := H
          replace H : (tinderlaw08_TreeKeeps.j0 k a1 t11003 (!t11011) l0_0 a0_1 a0_2 l0_3) = some r := H
          have A17 := Aside0.mk A170
          clear A170
          have H' := Aside0.mk H
          clear H
          have hcz18_0 : w15.cell? ⟨gb11001, 0, none⟩ = some (.slice A0_0 l0_0.length c0_0) := (blk_cell BK11001.out 0).trans rfl
          have hcz18_1 : w15.cell? ⟨gb11001, 1, none⟩ = some (.int .i64 a0_1) := (blk_cell BK11001.out 1).trans rfl
          have hcz18_2 : w15.cell? ⟨gb11001, 2, none⟩ = some (.string a0_2) := (blk_cell BK11001.out 2).trans rfl
          have hcz18_3 : w15.cell? ⟨gb11001, 3, none⟩ = some (.slice A0_3 l0_3.length c0_3) := (blk_cell BK11001.out 3).trans rfl
          have hfz18_0 := blk_frozen BK11001.out 0
          have hfz18_1 := blk_frozen BK11001.out 1
          have hfz18_2 := blk_frozen BK11001.out 2
          have hfz18_3 := blk_frozen BK11001.out 3
          obtain ⟨Ao19, co19, eo19⟩ := Kd.R_slice HO11010.out
          subst eo19
          go_wp2_with (first | (go_at_call 31; (with_reducible refine (tinderref04_Same.calls _ _ t11007 _ _ l0_3 t11011 _ ?side1 ?side2 ?side3 ?side4 A17.out).mono ?_); (case side1 => repeat (first | exact (Kd.R_reads' HO11010.out).2.2 | (with_reducible refine Kd.C_alloc ?_ _) | (with_reducible refine Kd.C_drewN ?_ _) | (with_reducible refine Kd.C_drew ?_))); (case side2 => exact (Kd.R_reads' HO11010.out).2.1); (case side3 => repeat (first | exact (Kd.C_below HR0_3.out HB.out) | (with_reducible refine Kd.C_alloc ?_ _) | (with_reducible refine Kd.C_drewN ?_ _) | (with_reducible refine Kd.C_drew ?_))); (case side4 => exact HC0_3.out); rintro e w' ⟨rfl, ⟨nd, rfl⟩⟩))
          go_meet
          case rel => exact ⟨_, (!t11011), (by first | rfl | (simp; done) | (simp [*]; done)), H', ⟨by first | omega | exact Nat.le_refl _⟩, ⟨by (with_reducible repeat (first | apply Kd.R_alloc | apply Kd.R_drewN | apply Kd.R_drew)); exact Kd.R_mono HO11006.out (fun _ hk => trivial)⟩, ⟨by (with_reducible repeat (first | refine blk_drewN ?_ _ | refine blk_drew ?_ | refine blk_alloc ?_ _)); exact BK11001.out⟩, ⟨by repeat (first | (with_reducible first | exact HB.out | apply below_alloc | apply pw_below_drewN | apply below_drew1 | refine below_set ?_ GE11001.out) | exact HB.out)⟩⟩
        · rw [if_neg c16] at H
          have c16b0 : (t11008 == 0) = false := beq_eq_false_iff_ne.mpr c16
          have c16b1 : (t11008 != 0) = true := bne_iff_ne.mpr c16
          (first | rw [c16b0] | (simp only [i64_w, i32_w]; rw [c16b0]) | skip)
          have H' := Aside0.mk H
          clear H
          go_wp2
          go_meet
          case rel => exact ⟨_, (true), (by first | rfl | (simp; done) | (simp [*]; done)), H', ⟨by first | omega | exact Nat.le_refl _⟩, ⟨by (with_reducible repeat (first | apply Kd.R_alloc | apply Kd.R_drewN | apply Kd.R_drew)); exact Kd.R_mono HO11006.out (fun _ hk => trivial)⟩, ⟨by (with_reducible repeat (first | refine blk_drewN ?_ _ | refine blk_drew ?_ | refine blk_alloc ?_ _)); exact BK11001.out⟩, ⟨by repeat (first | (with_reducible first | exact HB.out | apply below_alloc | apply pw_below_drewN | apply below_drew1 | refine below_set ?_ GE11001.out) | exact HB.out)⟩⟩
      case rest =>
        clear HC8
        try clear c1
        try clear c2
        try clear p2
        try clear c3
        try clear c4
        try clear c6
        try clear c6b0
        try clear c6b1
        try clear c10
        try clear c11
        try clear c16
        try clear c16b0
        try clear c16b1
        try clear hcz11_0
        try clear hcz11_1
        try clear hcz11_2
        try clear hcz11_3
        try clear hcz13_0
        try clear hcz13_1
        try clear hcz13_2
        try clear hcz13_3
        try clear hcz18_0
        try clear hcz18_1
        try clear hcz18_2
        try clear hcz18_3
        try clear hfz11_0
        try clear hfz11_1
        try clear hfz11_2
        try clear hfz11_3
        try clear hfz13_0
        try clear hfz13_1
        try clear hfz13_2
        try clear hfz13_3
        try clear hfz18_0
        try clear hfz18_1
        try clear hfz18_2
        try clear hfz18_3
        obtain ⟨kq, x54_7, rfl, HA, HJ7, HO_5, BK11001, HB⟩ := hcut
        cases kq with
        | zero => exact absurd HA.out (by simp [tinderlaw08_TreeKeeps.j0])
        | succ kj7 =>
          have H := HA.out
          clear HA
          simp only [tinderlaw08_TreeKeeps.j0] at H
          by_cases c20 : x54_7 = true
          · subst c20
            have H1 : (some false) = some r := by rw [if_pos rfl] at H; exact H
            clear H
            have H := H1
            clear H1
            obtain rfl := Option.some.inj H
            go_wp2
            go_ret
            exact ⟨by first | rfl | (simp [errW_none, errW_some] <;> rfl) | (simp [*, errW_none, errW_some] <;> rfl), by repeat (first | (with_reducible first | exact HB.out | apply below_alloc | apply pw_below_drewN | apply below_drew1 | refine below_set ?_ GE11001.out) | exact HB.out)⟩
          · replace c20 := Bool.eq_false_iff.mpr c20
            subst c20
            have H1 : (if a1.toList = a0_2.toList then (tinderlaw08_TreeKeeps.j1 kj7 t11003 l0_0 a0_1 a0_2 l0_3) else ((tree_Get.f l0_0 a0_1 a1).bind fun bt11012 => ((tree_Get.f t11003 a0_1 a1).bind fun bt11016 => (if bt11012.2 = bt11016.2 then ((tinderref04_Same.f bt11012.1 bt11016.1).bind fun t11020 => (if t11020 = true then (tinderlaw08_TreeKeeps.j1 kj7 t11003 l0_0 a0_1 a0_2 l0_3) else (some false))) else (some false))))) = some r := by rw [if_neg (show ¬ (false = true) by decide)] at H; exact H
            clear H
            have H := H1
            clear H1
            have HC21 := Aside0.mk H
            clear H
            have hcz22_0 : wc.cell? ⟨gb11001, 0, none⟩ = some (.slice A0_0 l0_0.length c0_0) := (blk_cell BK11001.out 0).trans rfl
            have hcz22_1 : wc.cell? ⟨gb11001, 1, none⟩ = some (.int .i64 a0_1) := (blk_cell BK11001.out 1).trans rfl
            have hcz22_2 : wc.cell? ⟨gb11001, 2, none⟩ = some (.string a0_2) := (blk_cell BK11001.out 2).trans rfl
            have hcz22_3 : wc.cell? ⟨gb11001, 3, none⟩ = some (.slice A0_3 l0_3.length c0_3) := (blk_cell BK11001.out 3).trans rfl
            have hfz22_0 := blk_frozen BK11001.out 0
            have hfz22_1 := blk_frozen BK11001.out 1
            have hfz22_2 := blk_frozen BK11001.out 2
            have hfz22_3 := blk_frozen BK11001.out 3
            go_upto_if 58 with (fail)
            go_cut [] (fun wc => ∃ (kq : Nat), Aside0 (tinderlaw08_TreeKeeps.j1 kq t11003 l0_0 a0_1 a0_2 l0_3 = some r) ∧ Aside0 (kq ≤ kj7) ∧ Aside0 (Kd.R k44 44 wc w.heap.size (fun _ => True) (.slice Ao14 t11003.length co14) t11003) ∧ Aside0 (wc.heap[gb11001]? = some (.cells #[(.slice A0_0 l0_0.length c0_0), .int .i64 a0_1, .string a0_2, (.slice A0_3 l0_3.length c0_3)] 30 (0, 0))) ∧ Aside0 (Below w.heap.size w wc))
            case first =>
              have H := HC21.out
              clear HC21
              by_cases c23 : a1.toList = a0_2.toList
              · rw [if_pos c23] at H
                have c23b0 : (a1.toList == a0_2.toList) = true := beq_iff_eq.mpr c23
                have c23b1 : (a1.toList != a0_2.toList) = false := bne_eq_false_iff_eq.mpr c23
                clear c23
                (first | rw [c23b0] | (simp only [i64_w, i32_w]; rw [c23b0]) | skip)
                have H' := Aside0.mk H
                clear H
                go_wp2
                go_meet
                case rel => exact ⟨_, H', ⟨by have := HJ7.out; first | omega | exact Nat.le_refl _⟩, ⟨by (with_reducible repeat (first | apply Kd.R_alloc | apply Kd.R_drewN | apply Kd.R_drew)); exact HO_5.out⟩, ⟨by (with_reducible repeat (first | refine blk_drewN ?_ _ | refine blk_drew ?_ | refine blk_alloc ?_ _)); exact BK11001.out⟩, ⟨by repeat (first | (with_reducible first | exact HB.out | apply below_alloc | apply pw_below_drewN | apply below_drew1 | refine below_set ?_ GE11001.out) | exact HB.out)⟩⟩
              · rw [if_neg c23] at H
                have c23b0 : (a1.toList == a0_2.toList) = false := beq_eq_false_iff_ne.mpr c23
                have c23b1 : (a1.toList != a0_2.toList) = true := bne_iff_ne.mpr c23
                (first | rw [c23b0] | (simp only [i64_w, i32_w]; rw [c23b0]) | skip)
                replace H := Option.bind_eq_some_iff.mp H
                obtain ⟨⟨t11012, t11013⟩, A240, H⟩ := H
                replace H : ((tree_Get.f t11003 a0_1 a1).bind fun bt11016 => (if t11013 = bt11016.2 then ((tinderref04_Same.f t11012 bt11016.1).bind fun t11020 => (if t11020 = true then (tinderlaw08_TreeKeeps.j1 kj7 t11003 l0_0 a0_1 a0_2 l0_3) else (some false))) else (some false))) = some r := H
                have A24 := Aside0.mk A240
                clear A240
                replace H := Option.bind_eq_some_iff.mp H
                obtain ⟨⟨t11016, t11017⟩, A250, H⟩ := H
                replace H : (if t11013 = t11017 then ((tinderref04_Same.f t11012 t11016).bind fun t11020 => (if t11020 = true then (tinderlaw08_TreeKeeps.j1 kj7 t11003 l0_0 a0_1 a0_2 l0_3) else (some false))) else (some false)) = some r := H
                have A25 := Aside0.mk A250
                clear A250
                by_cases c26 : t11013 = t11017
                · rw [if_pos c26] at H
                  have c26b0 : (t11013 == t11017) = true := beq_iff_eq.mpr c26
                  have c26b1 : (t11013 != t11017) = false := bne_eq_false_iff_eq.mpr c26
                  clear c26
                  replace H := Option.bind_eq_some_iff.mp H
                  obtain ⟨t11020, A270, H⟩ := H
                  replace H : (if t11020 = true then (tinderlaw08_TreeKeeps.j1 kj7 t11003 l0_0 a0_1 a0_2 l0_3) else (some false)) = some r := H
                  have A27 := Aside0.mk A270
                  clear A270
                  by_cases c28 : t11020 = true
                  · subst c28
                    have H1 : (tinderlaw08_TreeKeeps.j1 kj7 t11003 l0_0 a0_1 a0_2 l0_3) = some r := by rw [if_pos rfl] at H; exact H
                    clear H
                    have H := H1
                    clear H1
                    have H' := Aside0.mk H
                    clear H
                    have hcz29_0 : wc.cell? ⟨gb11001, 0, none⟩ = some (.slice A0_0 l0_0.length c0_0) := (blk_cell BK11001.out 0).trans rfl
                    have hcz29_1 : wc.cell? ⟨gb11001, 1, none⟩ = some (.int .i64 a0_1) := (blk_cell BK11001.out 1).trans rfl
                    have hcz29_2 : wc.cell? ⟨gb11001, 2, none⟩ = some (.string a0_2) := (blk_cell BK11001.out 2).trans rfl
                    have hcz29_3 : wc.cell? ⟨gb11001, 3, none⟩ = some (.slice A0_3 l0_3.length c0_3) := (blk_cell BK11001.out 3).trans rfl
                    have hfz29_0 := blk_frozen BK11001.out 0
                    have hfz29_1 := blk_frozen BK11001.out 1
                    have hfz29_2 := blk_frozen BK11001.out 2
                    have hfz29_3 := blk_frozen BK11001.out 3
                    go_wp2_with (first | ((with_reducible refine gate_callee (f := 28) rfl ?_); refine goesL_ (some 65) rfl rfl Tryd.func28 (by kernel_rfl) rfl #[.slice A0_0 l0_0.length c0_0, .int .i64 a0_1, .string a1] rfl (by (try simp only [List.map_toArray, List.map_cons, List.map_nil]); first | done | rfl | (simp only [List.length_drop, List.length_take]; rfl)) ?_; (with_reducible refine (tree_Get.calls _ _ l0_0 a0_1 a1 t11012 t11013 _ ?side1 ?side2 A24.out).mono ?_); (case side1 => repeat (first | exact (Kd.C_below HR0_0.out HB.out) | (with_reducible refine Kd.C_alloc ?_ _) | (with_reducible refine Kd.C_drewN ?_ _) | (with_reducible refine Kd.C_drew ?_))); (case side2 => exact HC0_0.out); rintro e w30 ⟨v11014, rfl, ho0, hb⟩; refine ⟨_, rfl, ?_⟩; have n0_ := Aside0.mk (Kd.R_elder' (by (with_reducible repeat (first | apply Kd.R_alloc | apply Kd.R_drewN | apply Kd.R_drew)); exact HO_5.out) (Kd.R_base ho0) hb); have n1_ := Aside0.mk (Kd.R_lower ho0 (below_size (by repeat (first | (with_reducible first | exact HB.out | apply below_alloc | apply pw_below_drewN | apply below_drew1 | refine below_set ?_ GE11001.out) | exact HB.out)))); have n2_ := Aside0.mk (blk_below (g := gb11001) (o := .cells #[.slice A0_0 l0_0.length c0_0, .int .i64 a0_1, .string a0_2, .slice A0_3 l0_3.length c0_3] 30 (0, 0)) (by (with_reducible repeat (first | refine blk_drewN ?_ _ | refine blk_drew ?_ | refine blk_alloc ?_ _)); exact BK11001.out) hb); have n3_ := Aside0.mk (below_step (by repeat (first | (with_reducible first | exact HB.out | apply below_alloc | apply pw_below_drewN | apply below_drew1 | refine below_set ?_ GE11001.out) | exact HB.out)) hb); clear HO_5; clear BK11001; clear HB; have HO_5 := n0_; have HO11015 := n1_; have BK11001 := n2_; have HB := n3_; clear n0_ n1_ n2_ n3_; (try clear hb); (try clear hb2); (try clear hk); (try clear hi); (try clear ho0); have hcz31_0 : w30.cell? ⟨gb11001, 0, none⟩ = some (.slice A0_0 l0_0.length c0_0) := (blk_cell BK11001.out 0).trans rfl; have hcz31_1 : w30.cell? ⟨gb11001, 1, none⟩ = some (.int .i64 a0_1) := (blk_cell BK11001.out 1).trans rfl; have hcz31_2 : w30.cell? ⟨gb11001, 2, none⟩ = some (.string a0_2) := (blk_cell BK11001.out 2).trans rfl; have hcz31_3 : w30.cell? ⟨gb11001, 3, none⟩ = some (.slice A0_3 l0_3.length c0_3) := (blk_cell BK11001.out 3).trans rfl; have hfz31_0 := blk_frozen BK11001.out 0; have hfz31_1 := blk_frozen BK11001.out 1; have hfz31_2 := blk_frozen BK11001.out 2; have hfz31_3 := blk_frozen BK11001.out 3) | ((with_reducible refine gate_callee (f := 28) rfl ?_); refine goesL_ (some 73) rfl rfl Tryd.func28 (by kernel_rfl) rfl #[.slice Ao14 t11003.length co14, .int .i64 a0_1, .string a1] rfl (by (try simp only [List.map_toArray, List.map_cons, List.map_nil]); first | done | rfl | (simp only [List.length_drop, List.length_take]; rfl)) ?_; (with_reducible refine (tree_Get.calls _ _ t11003 a0_1 a1 t11016 t11017 _ ?side1 ?side2 A25.out).mono ?_); (case side1 => repeat (first | exact (Kd.R_reads' HO_5.out).2.2 | (with_reducible refine Kd.C_alloc ?_ _) | (with_reducible refine Kd.C_drewN ?_ _) | (with_reducible refine Kd.C_drew ?_))); (case side2 => exact (Kd.R_reads' HO_5.out).2.1); rintro e w32 ⟨v11018, rfl, ho0, hb⟩; refine ⟨_, rfl, ?_⟩; have n0_ := Aside0.mk (Kd.R_elder' (by (with_reducible repeat (first | apply Kd.R_alloc | apply Kd.R_drewN | apply Kd.R_drew)); exact HO_5.out) (Kd.R_base ho0) hb); have n1_ := Aside0.mk (Kd.R_elder' (by (with_reducible repeat (first | apply Kd.R_alloc | apply Kd.R_drewN | apply Kd.R_drew)); exact HO11015.out) (Kd.R_base ho0) hb); have n2_ := Aside0.mk (Kd.R_lower (Kd.R_new' ho0 (Kd.R_lt (by (with_reducible repeat (first | apply Kd.R_alloc | apply Kd.R_drewN | apply Kd.R_drew)); exact HO11015.out))) (below_size (by repeat (first | (with_reducible first | exact HB.out | apply below_alloc | apply pw_below_drewN | apply below_drew1 | refine below_set ?_ GE11001.out) | exact HB.out)))); have n3_ := Aside0.mk (blk_below (g := gb11001) (o := .cells #[.slice A0_0 l0_0.length c0_0, .int .i64 a0_1, .string a0_2, .slice A0_3 l0_3.length c0_3] 30 (0, 0)) (by (with_reducible repeat (first | refine blk_drewN ?_ _ | refine blk_drew ?_ | refine blk_alloc ?_ _)); exact BK11001.out) hb); have n4_ := Aside0.mk (below_step (by repeat (first | (with_reducible first | exact HB.out | apply below_alloc | apply pw_below_drewN | apply below_drew1 | refine below_set ?_ GE11001.out) | exact HB.out)) hb); clear HO_5; clear HO11015; clear BK11001; clear HB; have HO_5 := n0_; have HO11015 := n1_; have HO11019 := n2_; have BK11001 := n3_; have HB := n4_; clear n0_ n1_ n2_ n3_ n4_; (try clear hb); (try clear hb2); (try clear hk); (try clear hi); (try clear ho0); obtain ⟨Ao33, co33, eo33⟩ := Kd.R_slice HO11015.out; subst eo33; obtain ⟨Ao34, co34, eo34⟩ := Kd.R_slice HO11019.out; subst eo34) | (go_at_call 31; (with_reducible refine (tinderref04_Same.calls _ _ t11012 _ _ t11016 true _ ?side1 ?side2 ?side3 ?side4 A27.out).mono ?_); (case side1 => repeat (first | exact (Kd.R_reads' HO11015.out).2.2 | (with_reducible refine Kd.C_alloc ?_ _) | (with_reducible refine Kd.C_drewN ?_ _) | (with_reducible refine Kd.C_drew ?_))); (case side2 => exact (Kd.R_reads' HO11015.out).2.1); (case side3 => repeat (first | exact (Kd.R_reads' HO11019.out).2.2 | (with_reducible refine Kd.C_alloc ?_ _) | (with_reducible refine Kd.C_drewN ?_ _) | (with_reducible refine Kd.C_drew ?_))); (case side4 => exact (Kd.R_reads' HO11019.out).2.1); rintro e w' ⟨rfl, ⟨nd, rfl⟩⟩))
                    go_meet
                    case rel => exact ⟨_, H', ⟨by have := HJ7.out; first | omega | exact Nat.le_refl _⟩, ⟨by (with_reducible repeat (first | apply Kd.R_alloc | apply Kd.R_drewN | apply Kd.R_drew)); exact Kd.R_mono HO_5.out (fun _ hk => trivial)⟩, ⟨by (with_reducible repeat (first | refine blk_drewN ?_ _ | refine blk_drew ?_ | refine blk_alloc ?_ _)); exact BK11001.out⟩, ⟨by repeat (first | (with_reducible first | exact HB.out | apply below_alloc | apply pw_below_drewN | apply below_drew1 | refine below_set ?_ GE11001.out) | exact HB.out)⟩⟩
                  · replace c28 := Bool.eq_false_iff.mpr c28
                    subst c28
                    have H1 : (some false) = some r := by rw [if_neg (show ¬ (false = true) by decide)] at H; exact H
                    clear H
                    have H := H1
                    clear H1
                    obtain rfl := Option.some.inj H
                    have hcz35_0 : wc.cell? ⟨gb11001, 0, none⟩ = some (.slice A0_0 l0_0.length c0_0) := (blk_cell BK11001.out 0).trans rfl
                    have hcz35_1 : wc.cell? ⟨gb11001, 1, none⟩ = some (.int .i64 a0_1) := (blk_cell BK11001.out 1).trans rfl
                    have hcz35_2 : wc.cell? ⟨gb11001, 2, none⟩ = some (.string a0_2) := (blk_cell BK11001.out 2).trans rfl
                    have hcz35_3 : wc.cell? ⟨gb11001, 3, none⟩ = some (.slice A0_3 l0_3.length c0_3) := (blk_cell BK11001.out 3).trans rfl
                    have hfz35_0 := blk_frozen BK11001.out 0
                    have hfz35_1 := blk_frozen BK11001.out 1
                    have hfz35_2 := blk_frozen BK11001.out 2
                    have hfz35_3 := blk_frozen BK11001.out 3
                    go_wp2_with (first | ((with_reducible refine gate_callee (f := 28) rfl ?_); refine goesL_ (some 65) rfl rfl Tryd.func28 (by kernel_rfl) rfl #[.slice A0_0 l0_0.length c0_0, .int .i64 a0_1, .string a1] rfl (by (try simp only [List.map_toArray, List.map_cons, List.map_nil]); first | done | rfl | (simp only [List.length_drop, List.length_take]; rfl)) ?_; (with_reducible refine (tree_Get.calls _ _ l0_0 a0_1 a1 t11012 t11013 _ ?side1 ?side2 A24.out).mono ?_); (case side1 => repeat (first | exact (Kd.C_below HR0_0.out HB.out) | (with_reducible refine Kd.C_alloc ?_ _) | (with_reducible refine Kd.C_drewN ?_ _) | (with_reducible refine Kd.C_drew ?_))); (case side2 => exact HC0_0.out); rintro e w36 ⟨v11014, rfl, ho0, hb⟩; refine ⟨_, rfl, ?_⟩; have n0_ := Aside0.mk (Kd.R_elder' (by (with_reducible repeat (first | apply Kd.R_alloc | apply Kd.R_drewN | apply Kd.R_drew)); exact HO_5.out) (Kd.R_base ho0) hb); have n1_ := Aside0.mk (Kd.R_lower ho0 (below_size (by repeat (first | (with_reducible first | exact HB.out | apply below_alloc | apply pw_below_drewN | apply below_drew1 | refine below_set ?_ GE11001.out) | exact HB.out)))); have n2_ := Aside0.mk (blk_below (g := gb11001) (o := .cells #[.slice A0_0 l0_0.length c0_0, .int .i64 a0_1, .string a0_2, .slice A0_3 l0_3.length c0_3] 30 (0, 0)) (by (with_reducible repeat (first | refine blk_drewN ?_ _ | refine blk_drew ?_ | refine blk_alloc ?_ _)); exact BK11001.out) hb); have n3_ := Aside0.mk (below_step (by repeat (first | (with_reducible first | exact HB.out | apply below_alloc | apply pw_below_drewN | apply below_drew1 | refine below_set ?_ GE11001.out) | exact HB.out)) hb); clear HO_5; clear BK11001; clear HB; have HO_5 := n0_; have HO11015 := n1_; have BK11001 := n2_; have HB := n3_; clear n0_ n1_ n2_ n3_; (try clear hb); (try clear hb2); (try clear hk); (try clear hi); (try clear ho0); have hcz37_0 : w36.cell? ⟨gb11001, 0, none⟩ = some (.slice A0_0 l0_0.length c0_0) := (blk_cell BK11001.out 0).trans rfl; have hcz37_1 : w36.cell? ⟨gb11001, 1, none⟩ = some (.int .i64 a0_1) := (blk_cell BK11001.out 1).trans rfl; have hcz37_2 : w36.cell? ⟨gb11001, 2, none⟩ = some (.string a0_2) := (blk_cell BK11001.out 2).trans rfl; have hcz37_3 : w36.cell? ⟨gb11001, 3, none⟩ = some (.slice A0_3 l0_3.length c0_3) := (blk_cell BK11001.out 3).trans rfl; have hfz37_0 := blk_frozen BK11001.out 0; have hfz37_1 := blk_frozen BK11001.out 1; have hfz37_2 := blk_frozen BK11001.out 2; have hfz37_3 := blk_frozen BK11001.out 3) | ((with_reducible refine gate_callee (f := 28) rfl ?_); refine goesL_ (some 73) rfl rfl Tryd.func28 (by kernel_rfl) rfl #[.slice Ao14 t11003.length co14, .int .i64 a0_1, .string a1] rfl (by (try simp only [List.map_toArray, List.map_cons, List.map_nil]); first | done | rfl | (simp only [List.length_drop, List.length_take]; rfl)) ?_; (with_reducible refine (tree_Get.calls _ _ t11003 a0_1 a1 t11016 t11017 _ ?side1 ?side2 A25.out).mono ?_); (case side1 => repeat (first | exact (Kd.R_reads' HO_5.out).2.2 | (with_reducible refine Kd.C_alloc ?_ _) | (with_reducible refine Kd.C_drewN ?_ _) | (with_reducible refine Kd.C_drew ?_))); (case side2 => exact (Kd.R_reads' HO_5.out).2.1); rintro e w38 ⟨v11018, rfl, ho0, hb⟩; refine ⟨_, rfl, ?_⟩; have n0_ := Aside0.mk (Kd.R_elder' (by (with_reducible repeat (first | apply Kd.R_alloc | apply Kd.R_drewN | apply Kd.R_drew)); exact HO_5.out) (Kd.R_base ho0) hb); have n1_ := Aside0.mk (Kd.R_elder' (by (with_reducible repeat (first | apply Kd.R_alloc | apply Kd.R_drewN | apply Kd.R_drew)); exact HO11015.out) (Kd.R_base ho0) hb); have n2_ := Aside0.mk (Kd.R_lower (Kd.R_new' ho0 (Kd.R_lt (by (with_reducible repeat (first | apply Kd.R_alloc | apply Kd.R_drewN | apply Kd.R_drew)); exact HO11015.out))) (below_size (by repeat (first | (with_reducible first | exact HB.out | apply below_alloc | apply pw_below_drewN | apply below_drew1 | refine below_set ?_ GE11001.out) | exact HB.out)))); have n3_ := Aside0.mk (blk_below (g := gb11001) (o := .cells #[.slice A0_0 l0_0.length c0_0, .int .i64 a0_1, .string a0_2, .slice A0_3 l0_3.length c0_3] 30 (0, 0)) (by (with_reducible repeat (first | refine blk_drewN ?_ _ | refine blk_drew ?_ | refine blk_alloc ?_ _)); exact BK11001.out) hb); have n4_ := Aside0.mk (below_step (by repeat (first | (with_reducible first | exact HB.out | apply below_alloc | apply pw_below_drewN | apply below_drew1 | refine below_set ?_ GE11001.out) | exact HB.out)) hb); clear HO_5; clear HO11015; clear BK11001; clear HB; have HO_5 := n0_; have HO11015 := n1_; have HO11019 := n2_; have BK11001 := n3_; have HB := n4_; clear n0_ n1_ n2_ n3_ n4_; (try clear hb); (try clear hb2); (try clear hk); (try clear hi); (try clear ho0); obtain ⟨Ao39, co39, eo39⟩ := Kd.R_slice HO11015.out; subst eo39; obtain ⟨Ao40, co40, eo40⟩ := Kd.R_slice HO11019.out; subst eo40) | (go_at_call 31; (with_reducible refine (tinderref04_Same.calls _ _ t11012 _ _ t11016 false _ ?side1 ?side2 ?side3 ?side4 A27.out).mono ?_); (case side1 => repeat (first | exact (Kd.R_reads' HO11015.out).2.2 | (with_reducible refine Kd.C_alloc ?_ _) | (with_reducible refine Kd.C_drewN ?_ _) | (with_reducible refine Kd.C_drew ?_))); (case side2 => exact (Kd.R_reads' HO11015.out).2.1); (case side3 => repeat (first | exact (Kd.R_reads' HO11019.out).2.2 | (with_reducible refine Kd.C_alloc ?_ _) | (with_reducible refine Kd.C_drewN ?_ _) | (with_reducible refine Kd.C_drew ?_))); (case side4 => exact (Kd.R_reads' HO11019.out).2.1); rintro e w' ⟨rfl, ⟨nd, rfl⟩⟩))
                    go_ret
                    exact ⟨by first | rfl | (simp [errW_none, errW_some] <;> rfl) | (simp [*, errW_none, errW_some] <;> rfl), by repeat (first | (with_reducible first | exact HB.out | apply below_alloc | apply pw_below_drewN | apply below_drew1 | refine below_set ?_ GE11001.out) | exact HB.out)⟩
                · rw [if_neg c26] at H
                  have c26b0 : (t11013 == t11017) = false := beq_eq_false_iff_ne.mpr c26
                  have c26b1 : (t11013 != t11017) = true := bne_iff_ne.mpr c26
                  obtain rfl := Option.some.inj H
                  have hcz41_0 : wc.cell? ⟨gb11001, 0, none⟩ = some (.slice A0_0 l0_0.length c0_0) := (blk_cell BK11001.out 0).trans rfl
                  have hcz41_1 : wc.cell? ⟨gb11001, 1, none⟩ = some (.int .i64 a0_1) := (blk_cell BK11001.out 1).trans rfl
                  have hcz41_2 : wc.cell? ⟨gb11001, 2, none⟩ = some (.string a0_2) := (blk_cell BK11001.out 2).trans rfl
                  have hcz41_3 : wc.cell? ⟨gb11001, 3, none⟩ = some (.slice A0_3 l0_3.length c0_3) := (blk_cell BK11001.out 3).trans rfl
                  have hfz41_0 := blk_frozen BK11001.out 0
                  have hfz41_1 := blk_frozen BK11001.out 1
                  have hfz41_2 := blk_frozen BK11001.out 2
                  have hfz41_3 := blk_frozen BK11001.out 3
                  go_wp2_with (first | ((with_reducible refine gate_callee (f := 28) rfl ?_); refine goesL_ (some 65) rfl rfl Tryd.func28 (by kernel_rfl) rfl #[.slice A0_0 l0_0.length c0_0, .int .i64 a0_1, .string a1] rfl (by (try simp only [List.map_toArray, List.map_cons, List.map_nil]); first | done | rfl | (simp only [List.length_drop, List.length_take]; rfl)) ?_; (with_reducible refine (tree_Get.calls _ _ l0_0 a0_1 a1 t11012 t11013 _ ?side1 ?side2 A24.out).mono ?_); (case side1 => repeat (first | exact (Kd.C_below HR0_0.out HB.out) | (with_reducible refine Kd.C_alloc ?_ _) | (with_reducible refine Kd.C_drewN ?_ _) | (with_reducible refine Kd.C_drew ?_))); (case side2 => exact HC0_0.out); rintro e w42 ⟨v11014, rfl, ho0, hb⟩; refine ⟨_, rfl, ?_⟩; have n0_ := Aside0.mk (Kd.R_elder' (by (with_reducible repeat (first | apply Kd.R_alloc | apply Kd.R_drewN | apply Kd.R_drew)); exact HO_5.out) (Kd.R_base ho0) hb); have n1_ := Aside0.mk (Kd.R_lower ho0 (below_size (by repeat (first | (with_reducible first | exact HB.out | apply below_alloc | apply pw_below_drewN | apply below_drew1 | refine below_set ?_ GE11001.out) | exact HB.out)))); have n2_ := Aside0.mk (blk_below (g := gb11001) (o := .cells #[.slice A0_0 l0_0.length c0_0, .int .i64 a0_1, .string a0_2, .slice A0_3 l0_3.length c0_3] 30 (0, 0)) (by (with_reducible repeat (first | refine blk_drewN ?_ _ | refine blk_drew ?_ | refine blk_alloc ?_ _)); exact BK11001.out) hb); have n3_ := Aside0.mk (below_step (by repeat (first | (with_reducible first | exact HB.out | apply below_alloc | apply pw_below_drewN | apply below_drew1 | refine below_set ?_ GE11001.out) | exact HB.out)) hb); clear HO_5; clear BK11001; clear HB; have HO_5 := n0_; have HO11015 := n1_; have BK11001 := n2_; have HB := n3_; clear n0_ n1_ n2_ n3_; (try clear hb); (try clear hb2); (try clear hk); (try clear hi); (try clear ho0); have hcz43_0 : w42.cell? ⟨gb11001, 0, none⟩ = some (.slice A0_0 l0_0.length c0_0) := (blk_cell BK11001.out 0).trans rfl; have hcz43_1 : w42.cell? ⟨gb11001, 1, none⟩ = some (.int .i64 a0_1) := (blk_cell BK11001.out 1).trans rfl; have hcz43_2 : w42.cell? ⟨gb11001, 2, none⟩ = some (.string a0_2) := (blk_cell BK11001.out 2).trans rfl; have hcz43_3 : w42.cell? ⟨gb11001, 3, none⟩ = some (.slice A0_3 l0_3.length c0_3) := (blk_cell BK11001.out 3).trans rfl; have hfz43_0 := blk_frozen BK11001.out 0; have hfz43_1 := blk_frozen BK11001.out 1; have hfz43_2 := blk_frozen BK11001.out 2; have hfz43_3 := blk_frozen BK11001.out 3) | ((with_reducible refine gate_callee (f := 28) rfl ?_); refine goesL_ (some 73) rfl rfl Tryd.func28 (by kernel_rfl) rfl #[.slice Ao14 t11003.length co14, .int .i64 a0_1, .string a1] rfl (by (try simp only [List.map_toArray, List.map_cons, List.map_nil]); first | done | rfl | (simp only [List.length_drop, List.length_take]; rfl)) ?_; (with_reducible refine (tree_Get.calls _ _ t11003 a0_1 a1 t11016 t11017 _ ?side1 ?side2 A25.out).mono ?_); (case side1 => repeat (first | exact (Kd.R_reads' HO_5.out).2.2 | (with_reducible refine Kd.C_alloc ?_ _) | (with_reducible refine Kd.C_drewN ?_ _) | (with_reducible refine Kd.C_drew ?_))); (case side2 => exact (Kd.R_reads' HO_5.out).2.1); rintro e w44 ⟨v11018, rfl, ho0, hb⟩; refine ⟨_, rfl, ?_⟩; have n0_ := Aside0.mk (Kd.R_elder' (by (with_reducible repeat (first | apply Kd.R_alloc | apply Kd.R_drewN | apply Kd.R_drew)); exact HO_5.out) (Kd.R_base ho0) hb); have n1_ := Aside0.mk (Kd.R_elder' (by (with_reducible repeat (first | apply Kd.R_alloc | apply Kd.R_drewN | apply Kd.R_drew)); exact HO11015.out) (Kd.R_base ho0) hb); have n2_ := Aside0.mk (Kd.R_lower (Kd.R_new' ho0 (Kd.R_lt (by (with_reducible repeat (first | apply Kd.R_alloc | apply Kd.R_drewN | apply Kd.R_drew)); exact HO11015.out))) (below_size (by repeat (first | (with_reducible first | exact HB.out | apply below_alloc | apply pw_below_drewN | apply below_drew1 | refine below_set ?_ GE11001.out) | exact HB.out)))); have n3_ := Aside0.mk (blk_below (g := gb11001) (o := .cells #[.slice A0_0 l0_0.length c0_0, .int .i64 a0_1, .string a0_2, .slice A0_3 l0_3.length c0_3] 30 (0, 0)) (by (with_reducible repeat (first | refine blk_drewN ?_ _ | refine blk_drew ?_ | refine blk_alloc ?_ _)); exact BK11001.out) hb); have n4_ := Aside0.mk (below_step (by repeat (first | (with_reducible first | exact HB.out | apply below_alloc | apply pw_below_drewN | apply below_drew1 | refine below_set ?_ GE11001.out) | exact HB.out)) hb); clear HO_5; clear HO11015; clear BK11001; clear HB; have HO_5 := n0_; have HO11015 := n1_; have HO11019 := n2_; have BK11001 := n3_; have HB := n4_; clear n0_ n1_ n2_ n3_ n4_; (try clear hb); (try clear hb2); (try clear hk); (try clear hi); (try clear ho0)))
                  go_ret
                  exact ⟨by first | rfl | (simp [errW_none, errW_some] <;> rfl) | (simp [*, errW_none, errW_some] <;> rfl), by repeat (first | (with_reducible first | exact HB.out | apply below_alloc | apply pw_below_drewN | apply below_drew1 | refine below_set ?_ GE11001.out) | exact HB.out)⟩
            case rest =>
              clear HC21
              try clear c1
              try clear c2
              try clear p2
              try clear c3
              try clear c4
              try clear c6
              try clear c6b0
              try clear c6b1
              try clear c10
              try clear c11
              try clear c16
              try clear c16b0
              try clear c16b1
              try clear c20
              try clear c23
              try clear c23b0
              try clear c23b1
              try clear c26
              try clear c26b0
              try clear c26b1
              try clear c28
              try clear c35
              try clear hcz11_0
              try clear hcz11_1
              try clear hcz11_2
              try clear hcz11_3
              try clear hcz13_0
              try clear hcz13_1
              try clear hcz13_2
              try clear hcz13_3
              try clear hcz18_0
              try clear hcz18_1
              try clear hcz18_2
              try clear hcz18_3
              try clear hcz22_0
              try clear hcz22_1
              try clear hcz22_2
              try clear hcz22_3
              try clear hcz29_0
              try clear hcz29_1
              try clear hcz29_2
              try clear hcz29_3
              try clear hcz31_0
              try clear hcz31_1
              try clear hcz31_2
              try clear hcz31_3
              try clear hcz35_0
              try clear hcz35_1
              try clear hcz35_2
              try clear hcz35_3
              try clear hcz37_0
              try clear hcz37_1
              try clear hcz37_2
              try clear hcz37_3
              try clear hcz41_0
              try clear hcz41_1
              try clear hcz41_2
              try clear hcz41_3
              try clear hcz43_0
              try clear hcz43_1
              try clear hcz43_2
              try clear hcz43_3
              try clear hfz11_0
              try clear hfz11_1
              try clear hfz11_2
              try clear hfz11_3
              try clear hfz13_0
              try clear hfz13_1
              try clear hfz13_2
              try clear hfz13_3
              try clear hfz18_0
              try clear hfz18_1
              try clear hfz18_2
              try clear hfz18_3
              try clear hfz22_0
              try clear hfz22_1
              try clear hfz22_2
              try clear hfz22_3
              try clear hfz29_0
              try clear hfz29_1
              try clear hfz29_2
              try clear hfz29_3
              try clear hfz31_0
              try clear hfz31_1
              try clear hfz31_2
              try clear hfz31_3
              try clear hfz35_0
              try clear hfz35_1
              try clear hfz35_2
              try clear hfz35_3
              try clear hfz37_0
              try clear hfz37_1
              try clear hfz37_2
              try clear hfz37_3
              try clear hfz41_0
              try clear hfz41_1
              try clear hfz41_2
              try clear hfz41_3
              try clear hfz43_0
              try clear hfz43_1
              try clear hfz43_2
              try clear hfz43_3
              try clear p2
              obtain ⟨kq, HA, HJ20, HO_5, BK11001, HB⟩ := hcut
              cases kq with
              | zero => exact absurd HA.out (by simp [tinderlaw08_TreeKeeps.j1])
              | succ kj20 =>
                have H := HA.out
                clear HA
                simp only [tinderlaw08_TreeKeeps.j1] at H
                have H' := Aside0.mk H
                clear H
                go_wp2
                go_loopg [13] kj20 (fun kq v13 w' => ∃ (x13_3 : Int), v13 = .int .i64 x13_3 ∧ Aside0 (tinderlaw08_TreeKeeps.l0 kq t11003 x13_3 l0_0 a0_1 a0_2 l0_3 = some r) ∧ Aside0 (kq ≤ kj20) ∧ Aside0 (Kd.R k44 44 w' w.heap.size (fun _ => True) (.slice Ao14 t11003.length co14) t11003) ∧ Aside0 (w'.heap[gb11001]? = some (.cells #[(.slice A0_0 l0_0.length c0_0), .int .i64 a0_1, .string a0_2, (.slice A0_3 l0_3.length c0_3)] 30 (0, 0))) ∧ Aside0 (Below w.heap.size w w'))
                case atStart => exact ⟨(0), (by first | rfl | (simp; done) | (simp [*]; done)), H', ⟨Nat.le_refl _⟩, ⟨by (with_reducible repeat (first | apply Kd.R_alloc | apply Kd.R_drewN | apply Kd.R_drew)); exact HO_5.out⟩, ⟨by (with_reducible repeat (first | refine blk_drewN ?_ _ | refine blk_drew ?_ | refine blk_alloc ?_ _)); exact BK11001.out⟩, ⟨by repeat (first | (with_reducible first | exact HB.out | apply below_alloc | apply pw_below_drewN | apply below_drew1 | refine below_set ?_ GE11001.out) | exact HB.out)⟩⟩
                case round =>
                  clear H'
                  try clear c1
                  try clear c2
                  try clear p2
                  try clear c3
                  try clear c4
                  try clear c6
                  try clear c6b0
                  try clear c6b1
                  try clear c10
                  try clear c11
                  try clear c16
                  try clear c16b0
                  try clear c16b1
                  try clear c20
                  try clear c23
                  try clear c23b0
                  try clear c23b1
                  try clear c26
                  try clear c26b0
                  try clear c26b1
                  try clear c28
                  try clear c35
                  try clear hcz11_0
                  try clear hcz11_1
                  try clear hcz11_2
                  try clear hcz11_3
                  try clear hcz13_0
                  try clear hcz13_1
                  try clear hcz13_2
                  try clear hcz13_3
                  try clear hcz18_0
                  try clear hcz18_1
                  try clear hcz18_2
                  try clear hcz18_3
                  try clear hcz22_0
                  try clear hcz22_1
                  try clear hcz22_2
                  try clear hcz22_3
                  try clear hcz29_0
                  try clear hcz29_1
                  try clear hcz29_2
                  try clear hcz29_3
                  try clear hcz31_0
                  try clear hcz31_1
                  try clear hcz31_2
                  try clear hcz31_3
                  try clear hcz35_0
                  try clear hcz35_1
                  try clear hcz35_2
                  try clear hcz35_3
                  try clear hcz37_0
                  try clear hcz37_1
                  try clear hcz37_2
                  try clear hcz37_3
                  try clear hcz41_0
                  try clear hcz41_1
                  try clear hcz41_2
                  try clear hcz41_3
                  try clear hcz43_0
                  try clear hcz43_1
                  try clear hcz43_2
                  try clear hcz43_3
                  try clear hfz11_0
                  try clear hfz11_1
                  try clear hfz11_2
                  try clear hfz11_3
                  try clear hfz13_0
                  try clear hfz13_1
                  try clear hfz13_2
                  try clear hfz13_3
                  try clear hfz18_0
                  try clear hfz18_1
                  try clear hfz18_2
                  try clear hfz18_3
                  try clear hfz22_0
                  try clear hfz22_1
                  try clear hfz22_2
                  try clear hfz22_3
                  try clear hfz29_0
                  try clear hfz29_1
                  try clear hfz29_2
                  try clear hfz29_3
                  try clear hfz31_0
                  try clear hfz31_1
                  try clear hfz31_2
                  try clear hfz31_3
                  try clear hfz35_0
                  try clear hfz35_1
                  try clear hfz35_2
                  try clear hfz35_3
                  try clear hfz37_0
                  try clear hfz37_1
                  try clear hfz37_2
                  try clear hfz37_3
                  try clear hfz41_0
                  try clear hfz41_1
                  try clear hfz41_2
                  try clear hfz41_3
                  try clear hfz43_0
                  try clear hfz43_1
                  try clear hfz43_2
                  try clear hfz43_3
                  try clear p2
                  obtain ⟨x13_3, rfl, HA, HK3, HO_5, BK11001, HB⟩ := hrel
                  cases gk with
                  | zero => exact absurd HA.out (by simp [tinderlaw08_TreeKeeps.l0])
                  | succ k3 =>
                    have H := HA.out
                    clear HA
                    simp only [tinderlaw08_TreeKeeps.l0] at H
                    by_cases c45 : x13_3 < (t11003.length : Int)
                    · rw [if_pos c45] at H
                      have c45b0 : decide (x13_3 < (t11003.length : Int)) = true := decide_eq_true c45
                      clear c45
                      by_cases c46 : x13_3 = a0_1
                      · rw [if_pos c46] at H
                        have c46b0 : (x13_3 == a0_1) = true := beq_iff_eq.mpr c46
                        have c46b1 : (x13_3 != a0_1) = false := bne_eq_false_iff_eq.mpr c46
                        clear c46
                        have H' := Aside0.mk H
                        clear H
                        try go_wp2
                        have n0_ := Aside0.mk (Kd.R_drew HO_5.out)
                        have n1_ := Aside0.mk (blk_drew BK11001.out)
                        have n2_ := Aside0.mk (below_drew1 HB.out)
                        clear HO_5
                        clear BK11001
                        clear HB
                        have HO_5 := n0_
                        have BK11001 := n1_
                        have HB := n2_
                        clear n0_ n1_ n2_
                        refine start_ (n := 17) (S := fun w' => w'.cell? ⟨gb11001, 0, none⟩ = some (.slice A0_0 l0_0.length c0_0) ∧ w'.cell? ⟨gb11001, 1, none⟩ = some (.int .i64 a0_1) ∧ w'.cell? ⟨gb11001, 2, none⟩ = some (.string a0_2) ∧ w'.cell? ⟨gb11001, 3, none⟩ = some (.slice A0_3 l0_3.length c0_3)) (ds := []) #[false, false, false, false, false, false, false, false, false, false, false, false, false, false, false, false, false] (by kernel_rfl) rfl rfl ⟨(blk_cell BK11001.out 0).trans rfl, (blk_cell BK11001.out 1).trans rfl, (blk_cell BK11001.out 2).trans rfl, (blk_cell BK11001.out 3).trans rfl⟩ (fun hHeld => ?_); refine with_tabW tinderlaw08_TreeKeeps.tab17 tinderlaw08_TreeKeeps.bits17 (fun HT_ HW_ => ?_)
                        generalize wr.drew = w47 at HO_5 BK11001 HB hHeld ⊢
                        refine pure_ (i := 0) (N := some 91) (v := ?_) (a' := ?_) #[true, false, false, false, false, false, false, false, false, false, false, false, false, false, false, false, false] rfl rfl (any_of HT_.out (by kernel_rfl)) (fun _ _ _ h => h) (Or.inl ⟨by rfl, ?_⟩) ?_ ?_
                        rotate_left
                        · intro w'
                          go_simp
                          with_reducible rfl
                        rotate_left
                        · simp only [Act.put, List.setIfInBounds_toArray, List.set_cons_zero, List.set_cons_succ, i64_w, i32_w]
                          rfl
                        refine pure_ (i := 1) (N := some 92) (v := ?_) (a' := ?_) #[true, true, false, false, false, false, false, false, false, false, false, false, false, false, false, false, false] rfl rfl (any_of HT_.out (by kernel_rfl)) (fun _ _ _ h => h) (Or.inl ⟨by rfl, ?_⟩) ?_ ?_
                        rotate_left
                        · intro w'
                          go_simp
                          with_reducible rfl
                        rotate_left
                        · simp only [Act.put, List.setIfInBounds_toArray, List.set_cons_zero, List.set_cons_succ, i64_w, i32_w]
                          rfl
                        refine take_ (i := 2) (N := some 93) (v := ?_) (a' := ?_) #[true, true, true, false, false, false, false, false, false, false, false, false, false, false, false, false, false] rfl rfl (take_ofW HT_.out HW_.out (by kernel_rfl)) (fun _ _ _ h => h) (Or.inl ⟨by rfl, ?_⟩) hHeld ?_ ?_
                        rotate_left
                        · rintro w' ⟨s0, s1, s2, s3⟩
                          go_simp
                          with_reducible rfl
                        rotate_left
                        · simp only [Act.put, List.setIfInBounds_toArray, List.set_cons_zero, List.set_cons_succ, i64_w, i32_w]
                          rfl
                        refine pure_ (i := 3) (N := some 94) (v := ?_) (a' := ?_) #[true, true, true, true, false, false, false, false, false, false, false, false, false, false, false, false, false] rfl rfl (any_of HT_.out (by kernel_rfl)) (fun _ _ _ h => h) (Or.inl ⟨by rfl, ?_⟩) ?_ ?_
                        rotate_left
                        · intro w'
                          go_simp
                          with_reducible rfl
                        rotate_left
                        · simp only [Act.put, List.setIfInBounds_toArray, List.set_cons_zero, List.set_cons_succ, i64_w, i32_w]
                          rfl
                        refine pure_ (i := 4) (N := some 95) (v := ?_) (a' := ?_) #[true, true, true, true, true, false, false, false, false, false, false, false, false, false, false, false, false] rfl rfl (any_of HT_.out (by kernel_rfl)) (fun _ _ _ h => h) (Or.inl ⟨by rfl, ?_⟩) ?_ ?_
                        rotate_left
                        · intro w'
                          go_simp
                          with_reducible rfl
                        rotate_left
                        · simp only [Act.put, List.setIfInBounds_toArray, List.set_cons_zero, List.set_cons_succ, i64_w, i32_w]
                          rfl
                        refine pure_ (i := 5) (N := some 96) (v := undef) (a' := ?_) #[true, true, true, true, true, true, false, false, false, false, false, false, false, false, false, false, false] rfl rfl (any_of HT_.out (by kernel_rfl)) (fun _ _ _ h => h) (Or.inr ⟨by rfl, rfl⟩) ?_ ?_
                        rotate_left
                        · simp only [Act.put, List.setIfInBounds_toArray, List.set_cons_zero, List.set_cons_succ, i64_w, i32_w]
                          rfl
                        refine pure_ (i := 6) (N := some 97) (v := undef) (a' := ?_) #[true, true, true, true, true, true, true, false, false, false, false, false, false, false, false, false, false] rfl rfl (any_of HT_.out (by kernel_rfl)) (fun _ _ _ h => h) (Or.inr ⟨by rfl, rfl⟩) ?_ ?_
                        rotate_left
                        · simp only [Act.put, List.setIfInBounds_toArray, List.set_cons_zero, List.set_cons_succ, i64_w, i32_w]
                          rfl
                        refine pure_ (i := 7) (N := some 98) (v := undef) (a' := ?_) #[true, true, true, true, true, true, true, true, false, false, false, false, false, false, false, false, false] rfl rfl (any_of HT_.out (by kernel_rfl)) (fun _ _ _ h => h) (Or.inr ⟨by rfl, rfl⟩) ?_ ?_
                        rotate_left
                        · simp only [Act.put, List.setIfInBounds_toArray, List.set_cons_zero, List.set_cons_succ, i64_w, i32_w]
                          rfl
                        refine pure_ (i := 8) (N := some 99) (v := undef) (a' := ?_) #[true, true, true, true, true, true, true, true, true, false, false, false, false, false, false, false, false] rfl rfl (any_of HT_.out (by kernel_rfl)) (fun _ _ _ h => h) (Or.inr ⟨by rfl, rfl⟩) ?_ ?_
                        rotate_left
                        · simp only [Act.put, List.setIfInBounds_toArray, List.set_cons_zero, List.set_cons_succ, i64_w, i32_w]
                          rfl
                        refine pure_ (i := 9) (N := some 100) (v := undef) (a' := ?_) #[true, true, true, true, true, true, true, true, true, true, false, false, false, false, false, false, false] rfl rfl (any_of HT_.out (by kernel_rfl)) (fun _ _ _ h => h) (Or.inr ⟨by rfl, rfl⟩) ?_ ?_
                        rotate_left
                        · simp only [Act.put, List.setIfInBounds_toArray, List.set_cons_zero, List.set_cons_succ, i64_w, i32_w]
                          rfl
                        refine pure_ (i := 10) (N := some 101) (v := undef) (a' := ?_) #[true, true, true, true, true, true, true, true, true, true, true, false, false, false, false, false, false] rfl rfl (any_of HT_.out (by kernel_rfl)) (fun _ _ _ h => h) (Or.inr ⟨by rfl, rfl⟩) ?_ ?_
                        rotate_left
                        · simp only [Act.put, List.setIfInBounds_toArray, List.set_cons_zero, List.set_cons_succ, i64_w, i32_w]
                          rfl
                        refine pure_ (i := 11) (N := some 102) (v := undef) (a' := ?_) #[true, true, true, true, true, true, true, true, true, true, true, true, false, false, false, false, false] rfl rfl (any_of HT_.out (by kernel_rfl)) (fun _ _ _ h => h) (Or.inr ⟨by rfl, rfl⟩) ?_ ?_
                        rotate_left
                        · simp only [Act.put, List.setIfInBounds_toArray, List.set_cons_zero, List.set_cons_succ, i64_w, i32_w]
                          rfl
                        refine pure_ (i := 12) (N := some 103) (v := undef) (a' := ?_) #[true, true, true, true, true, true, true, true, true, true, true, true, true, false, false, false, false] rfl rfl (any_of HT_.out (by kernel_rfl)) (fun _ _ _ h => h) (Or.inr ⟨by rfl, rfl⟩) ?_ ?_
                        rotate_left
                        · simp only [Act.put, List.setIfInBounds_toArray, List.set_cons_zero, List.set_cons_succ, i64_w, i32_w]
                          rfl
                        refine pure_ (i := 13) (N := some 104) (v := undef) (a' := ?_) #[true, true, true, true, true, true, true, true, true, true, true, true, true, true, false, false, false] rfl rfl (any_of HT_.out (by kernel_rfl)) (fun _ _ _ h => h) (Or.inr ⟨by rfl, rfl⟩) ?_ ?_
                        rotate_left
                        · simp only [Act.put, List.setIfInBounds_toArray, List.set_cons_zero, List.set_cons_succ, i64_w, i32_w]
                          rfl
                        refine pure_ (i := 14) (N := some 105) (v := undef) (a' := ?_) #[true, true, true, true, true, true, true, true, true, true, true, true, true, true, true, false, false] rfl rfl (any_of HT_.out (by kernel_rfl)) (fun _ _ _ h => h) (Or.inr ⟨by rfl, rfl⟩) ?_ ?_
                        rotate_left
                        · simp only [Act.put, List.setIfInBounds_toArray, List.set_cons_zero, List.set_cons_succ, i64_w, i32_w]
                          rfl
                        refine pure_ (i := 15) (N := some 106) (v := undef) (a' := ?_) #[true, true, true, true, true, true, true, true, true, true, true, true, true, true, true, true, false] rfl rfl (any_of HT_.out (by kernel_rfl)) (fun _ _ _ h => h) (Or.inr ⟨by rfl, rfl⟩) ?_ ?_
                        rotate_left
                        · simp only [Act.put, List.setIfInBounds_toArray, List.set_cons_zero, List.set_cons_succ, i64_w, i32_w]
                          rfl
                        refine pure_ (i := 16) (N := some 107) (v := ?_) (a' := ?_) #[true, true, true, true, true, true, true, true, true, true, true, true, true, true, true, true, true] rfl rfl (any_of HT_.out (by kernel_rfl)) (fun _ _ _ h => h) (Or.inl ⟨by rfl, ?_⟩) ?_ ?_
                        rotate_left
                        · intro w'
                          go_simp
                          with_reducible rfl
                        rotate_left
                        · simp only [Act.put, List.setIfInBounds_toArray, List.set_cons_zero, List.set_cons_succ, i64_w, i32_w]
                          rfl
                        refine done_ (done_of HT_.out (by kernel_rfl)) ?_
                        try go_wp2
                        go_roundg k3
                        case measure => have := HJ7.out; have := HJ20.out; have := HK3.out; omega
                        case rel => exact ⟨(wrap64 (x13_3 + 1)), (by first | rfl | (simp; done) | (simp [*]; done)), H', ⟨by have := HJ7.out; have := HJ20.out; have := HK3.out; omega⟩, ⟨by (with_reducible repeat (first | apply Kd.R_alloc | apply Kd.R_drewN | apply Kd.R_drew)); exact HO_5.out⟩, ⟨by (with_reducible repeat (first | refine blk_drewN ?_ _ | refine blk_drew ?_ | refine blk_alloc ?_ _)); exact BK11001.out⟩, ⟨by repeat (first | (with_reducible first | exact HB.out | apply below_alloc | apply pw_below_drewN | apply below_drew1 | refine below_set ?_ GE11001.out) | exact HB.out)⟩⟩
                      · rw [if_neg c46] at H
                        have c46b0 : (x13_3 == a0_1) = false := beq_eq_false_iff_ne.mpr c46
                        have c46b1 : (x13_3 != a0_1) = true := bne_iff_ne.mpr c46
                        by_cases c48 : 0 ≤ x13_3
                        · rw [if_pos c48] at H
                          have c48b0 : decide (0 ≤ x13_3) = true := decide_eq_true c48
                          clear c48
                          by_cases c49 : x13_3 < (l0_0.length : Int)
                          · rw [if_pos c49] at H
                            have c49b0 : decide (x13_3 < (l0_0.length : Int)) = true := decide_eq_true c49
                            clear c49
                            replace H := Option.bind_eq_some_iff.mp H
                            obtain ⟨t11023, A500, H⟩ := H
                            replace H : (if t11023 = true then (tinderlaw08_TreeKeeps.l0 k3 t11003 (wrap64 (x13_3 + 1)) l0_0 a0_1 a0_2 l0_3) else (some false)) = some r := H
                            have A50 := Aside0.mk A500
                            clear A500
                            by_cases c51 : t11023 = true
                            · subst c51
                              have H1 : (tinderlaw08_TreeKeeps.l0 k3 t11003 (wrap64 (x13_3 + 1)) l0_0 a0_1 a0_2 l0_3) = some r := by rw [if_pos rfl] at H; exact H
                              clear H
                              have H := H1
                              clear H1
                              have H' := Aside0.mk H
                              clear H
                              try go_wp2
                              have n0_ := Aside0.mk (Kd.R_drew HO_5.out)
                              have n1_ := Aside0.mk (blk_drew BK11001.out)
                              have n2_ := Aside0.mk (below_drew1 HB.out)
                              clear HO_5
                              clear BK11001
                              clear HB
                              have HO_5 := n0_
                              have BK11001 := n1_
                              have HB := n2_
                              clear n0_ n1_ n2_
                              have p11021 : 0 ≤ (x13_3 : Int) := of_decide_eq_true (by first | (with_reducible assumption) | assumption)
                              have q11021 : x13_3 < (t11003.length : Int) := of_decide_eq_true (by first | (with_reducible assumption) | assumption)
                              obtain ⟨ad11021, A11021_1, c11021_1, A11021_3, c11021_3, A11021_4, c11021_4, e11021, hx11021_0, hx11021_1, hx11021_2, hx11021_3, hx11021_4, hl11021_1, hi11021_1, hl11021_3, hi11021_3, hl11021_4, hi11021_4⟩ := at_T44 (Kd.R_reads' HO_5.out).2.2 x13_3 p11021 q11021
                              cases e11021
                              obtain ⟨ce11021, hce11021, hMe11021, hcc11021⟩ := Kd.R_get HO_5.out z44 x13_3 p11021 (by first | exact q11021 | exact of_decide_eq_true (by first | (with_reducible assumption) | assumption) | (have e_ := (Kd.R_reads' HO_5.out).1; omega))
                              obtain ⟨ve11021_1, ve11021_3, ve11021_4, rfl, ge11021_1, ge11021_3, ge11021_4⟩ := k44_openM hMe11021
                              have hv11021_1 := hcc11021 1 _ rfl
                              rw [add_field _ _ 1 (by omega)] at hv11021_1
                              replace hv11021_1 := Option.some.inj (hv11021_1.symm.trans hx11021_1)
                              rw [hv11021_1] at ge11021_1
                              have HL11021_1 := Aside0.mk (show Kd.R (Kd.int .u32) 66 _ _ _ _ ((rd_T44 t11003 x13_3).f1) from ge11021_1)
                              clear hv11021_1 ge11021_1
                              have hv11021_3 := hcc11021 3 _ rfl
                              rw [add_field _ _ 3 (by omega)] at hv11021_3
                              replace hv11021_3 := Option.some.inj (hv11021_3.symm.trans hx11021_3)
                              rw [hv11021_3] at ge11021_3
                              have HL11021_3 := Aside0.mk (show Kd.R k53 53 _ _ _ _ ((rd_T44 t11003 x13_3).f3) from ge11021_3)
                              clear hv11021_3 ge11021_3
                              have hv11021_4 := hcc11021 4 _ rfl
                              rw [add_field _ _ 4 (by omega)] at hv11021_4
                              replace hv11021_4 := Option.some.inj (hv11021_4.symm.trans hx11021_4)
                              rw [hv11021_4] at ge11021_4
                              have HL11021_4 := Aside0.mk (show Kd.R (Kd.int .u32) 66 _ _ _ _ ((rd_T44 t11003 x13_3).f4) from ge11021_4)
                              clear hv11021_4 ge11021_4
                              clear hcc11021 hce11021
                              have HR11021_1 := Aside0.mk hi11021_1
                              have HC11021_1 := Aside0.mk hl11021_1
                              clear hi11021_1 hl11021_1
                              have HR11021_3 := Aside0.mk hi11021_3
                              have HC11021_3 := Aside0.mk hl11021_3
                              clear hi11021_3 hl11021_3
                              have HR11021_4 := Aside0.mk hi11021_4
                              have HC11021_4 := Aside0.mk hl11021_4
                              clear hi11021_4 hl11021_4
                              replace p11021 := eq_true p11021
                              replace q11021 := eq_true q11021
                              have p11022 : 0 ≤ (x13_3 : Int) := of_decide_eq_true (by first | (with_reducible assumption) | assumption)
                              have q11022 : x13_3 < (l0_0.length : Int) := of_decide_eq_true (by first | (with_reducible assumption) | assumption)
                              obtain ⟨ad11022, A11022_1, c11022_1, A11022_3, c11022_3, A11022_4, c11022_4, e11022, hx11022_0, hx11022_1, hx11022_2, hx11022_3, hx11022_4, hl11022_1, hi11022_1, hl11022_3, hi11022_3, hl11022_4, hi11022_4⟩ := at_T44 HR0_0.out x13_3 p11022 q11022
                              have hw11022_4 := hx11022_4
                              have hw11022_3 := hx11022_3
                              have hw11022_2 := hx11022_2
                              have hw11022_1 := hx11022_1
                              have hw11022_0 := hx11022_0
                              cases e11022
                              replace hx11022_0 := (HB.out.cell (World.block_lt_of_cell? w _ hx11022_0)).trans hx11022_0
                              replace hx11022_1 := (HB.out.cell (World.block_lt_of_cell? w _ hx11022_1)).trans hx11022_1
                              replace hx11022_2 := (HB.out.cell (World.block_lt_of_cell? w _ hx11022_2)).trans hx11022_2
                              replace hx11022_3 := (HB.out.cell (World.block_lt_of_cell? w _ hx11022_3)).trans hx11022_3
                              replace hx11022_4 := (HB.out.cell (World.block_lt_of_cell? w _ hx11022_4)).trans hx11022_4
                              have HR11022_1 := Aside0.mk hi11022_1
                              have HC11022_1 := Aside0.mk hl11022_1
                              clear hi11022_1 hl11022_1
                              have HR11022_3 := Aside0.mk hi11022_3
                              have HC11022_3 := Aside0.mk hl11022_3
                              clear hi11022_3 hl11022_3
                              have HR11022_4 := Aside0.mk hi11022_4
                              have HC11022_4 := Aside0.mk hl11022_4
                              clear hi11022_4 hl11022_4
                              replace p11022 := eq_true p11022
                              replace q11022 := eq_true q11022
                              refine start_ (n := 17) (S := fun w' => w'.cell? ⟨gb11001, 0, none⟩ = some (.slice (some ad11022) l0_0.length c0_0) ∧ w'.cell? ⟨gb11001, 1, none⟩ = some (.int .i64 a0_1) ∧ w'.cell? ⟨gb11001, 2, none⟩ = some (.string a0_2) ∧ w'.cell? ⟨gb11001, 3, none⟩ = some (.slice A0_3 l0_3.length c0_3) ∧ w'.cell? (ad11021.add ((x13_3).toNat * 5)) = some (.string ((rd_T44 t11003 x13_3).f0)) ∧ w'.cell? ⟨(ad11021.add ((x13_3).toNat * 5)).block, (ad11021.add ((x13_3).toNat * 5)).off + 1, none⟩ = some (.slice A11021_1 ((rd_T44 t11003 x13_3).f1).length c11021_1) ∧ w'.cell? ⟨(ad11021.add ((x13_3).toNat * 5)).block, (ad11021.add ((x13_3).toNat * 5)).off + 2, none⟩ = some (.int .i64 ((rd_T44 t11003 x13_3).f2)) ∧ w'.cell? ⟨(ad11021.add ((x13_3).toNat * 5)).block, (ad11021.add ((x13_3).toNat * 5)).off + 3, none⟩ = some (.slice A11021_3 ((rd_T44 t11003 x13_3).f3).length c11021_3) ∧ w'.cell? ⟨(ad11021.add ((x13_3).toNat * 5)).block, (ad11021.add ((x13_3).toNat * 5)).off + 4, none⟩ = some (.slice A11021_4 ((rd_T44 t11003 x13_3).f4).length c11021_4) ∧ w'.cell? (ad11022.add ((x13_3).toNat * 5)) = some (.string ((rd_T44 l0_0 x13_3).f0)) ∧ w'.cell? ⟨(ad11022.add ((x13_3).toNat * 5)).block, (ad11022.add ((x13_3).toNat * 5)).off + 1, none⟩ = some (.slice A11022_1 ((rd_T44 l0_0 x13_3).f1).length c11022_1) ∧ w'.cell? ⟨(ad11022.add ((x13_3).toNat * 5)).block, (ad11022.add ((x13_3).toNat * 5)).off + 2, none⟩ = some (.int .i64 ((rd_T44 l0_0 x13_3).f2)) ∧ w'.cell? ⟨(ad11022.add ((x13_3).toNat * 5)).block, (ad11022.add ((x13_3).toNat * 5)).off + 3, none⟩ = some (.slice A11022_3 ((rd_T44 l0_0 x13_3).f3).length c11022_3) ∧ w'.cell? ⟨(ad11022.add ((x13_3).toNat * 5)).block, (ad11022.add ((x13_3).toNat * 5)).off + 4, none⟩ = some (.slice A11022_4 ((rd_T44 l0_0 x13_3).f4).length c11022_4)) (ds := []) #[false, false, false, false, false, false, false, false, false, false, false, false, false, false, false, false, false] (by kernel_rfl) rfl rfl ⟨(blk_cell BK11001.out 0).trans rfl, (blk_cell BK11001.out 1).trans rfl, (blk_cell BK11001.out 2).trans rfl, (blk_cell BK11001.out 3).trans rfl, hx11021_0, hx11021_1, hx11021_2, hx11021_3, hx11021_4, ((HB.out.cell (World.block_lt_of_cell? w _ hw11022_0)).trans hw11022_0), ((HB.out.cell (World.block_lt_of_cell? w _ hw11022_1)).trans hw11022_1), ((HB.out.cell (World.block_lt_of_cell? w _ hw11022_2)).trans hw11022_2), ((HB.out.cell (World.block_lt_of_cell? w _ hw11022_3)).trans hw11022_3), ((HB.out.cell (World.block_lt_of_cell? w _ hw11022_4)).trans hw11022_4)⟩ (fun hHeld => ?_); refine with_tabW tinderlaw08_TreeKeeps.tab17 tinderlaw08_TreeKeeps.bits17 (fun HT_ HW_ => ?_)
                              generalize wr.drew = w52 at HO_5 BK11001 HB HL11021_1 HL11021_3 HL11021_4 HR11021_1 HR11021_3 HR11021_4 HR11022_1 HR11022_3 HR11022_4 hx11021_0 hx11021_1 hx11021_2 hx11021_3 hx11021_4 hx11022_0 hx11022_1 hx11022_2 hx11022_3 hx11022_4 hHeld ⊢
                              refine pure_ (i := 0) (N := some 91) (v := ?_) (a' := ?_) #[true, false, false, false, false, false, false, false, false, false, false, false, false, false, false, false, false] rfl rfl (any_of HT_.out (by kernel_rfl)) (fun _ _ _ h => h) (Or.inl ⟨by rfl, ?_⟩) ?_ ?_
                              rotate_left
                              · intro w'
                                go_simp
                                with_reducible rfl
                              rotate_left
                              · simp only [Act.put, List.setIfInBounds_toArray, List.set_cons_zero, List.set_cons_succ, i64_w, i32_w]
                                rfl
                              refine pure_ (i := 1) (N := some 92) (v := ?_) (a' := ?_) #[true, true, false, false, false, false, false, false, false, false, false, false, false, false, false, false, false] rfl rfl (any_of HT_.out (by kernel_rfl)) (fun _ _ _ h => h) (Or.inl ⟨by rfl, ?_⟩) ?_ ?_
                              rotate_left
                              · intro w'
                                go_simp
                                with_reducible rfl
                              rotate_left
                              · simp only [Act.put, List.setIfInBounds_toArray, List.set_cons_zero, List.set_cons_succ, i64_w, i32_w]
                                rfl
                              refine take_ (i := 2) (N := some 93) (v := ?_) (a' := ?_) #[true, true, true, false, false, false, false, false, false, false, false, false, false, false, false, false, false] rfl rfl (take_ofW HT_.out HW_.out (by kernel_rfl)) (fun _ _ _ h => h) (Or.inl ⟨by rfl, ?_⟩) hHeld ?_ ?_
                              rotate_left
                              · rintro w' ⟨s0, s1, s2, s3, s4, s5, s6, s7, s8, s9, s10, s11, s12, s13⟩
                                go_simp
                                with_reducible rfl
                              rotate_left
                              · simp only [Act.put, List.setIfInBounds_toArray, List.set_cons_zero, List.set_cons_succ, i64_w, i32_w]
                                rfl
                              refine pure_ (i := 3) (N := some 94) (v := ?_) (a' := ?_) #[true, true, true, true, false, false, false, false, false, false, false, false, false, false, false, false, false] rfl rfl (any_of HT_.out (by kernel_rfl)) (fun _ _ _ h => h) (Or.inl ⟨by rfl, ?_⟩) ?_ ?_
                              rotate_left
                              · intro w'
                                go_simp
                                with_reducible rfl
                              rotate_left
                              · simp only [Act.put, List.setIfInBounds_toArray, List.set_cons_zero, List.set_cons_succ, i64_w, i32_w]
                                rfl
                              refine pure_ (i := 4) (N := some 95) (v := ?_) (a' := ?_) #[true, true, true, true, true, false, false, false, false, false, false, false, false, false, false, false, false] rfl rfl (any_of HT_.out (by kernel_rfl)) (fun _ _ _ h => h) (Or.inl ⟨by rfl, ?_⟩) ?_ ?_
                              rotate_left
                              · intro w'
                                go_simp
                                with_reducible rfl
                              rotate_left
                              · simp only [Act.put, List.setIfInBounds_toArray, List.set_cons_zero, List.set_cons_succ, i64_w, i32_w]
                                rfl
                              refine pure_ (i := 5) (N := some 96) (v := ?_) (a' := ?_) #[true, true, true, true, true, true, false, false, false, false, false, false, false, false, false, false, false] rfl rfl (any_of HT_.out (by kernel_rfl)) (fun _ _ _ h => h) (Or.inl ⟨by rfl, ?_⟩) ?_ ?_
                              rotate_left
                              · intro w'
                                go_simp
                                with_reducible rfl
                              rotate_left
                              · simp only [Act.put, List.setIfInBounds_toArray, List.set_cons_zero, List.set_cons_succ, i64_w, i32_w]
                                rfl
                              refine pure_ (i := 6) (N := some 97) (v := ?_) (a' := ?_) #[true, true, true, true, true, true, true, false, false, false, false, false, false, false, false, false, false] rfl rfl (any_of HT_.out (by kernel_rfl)) (fun _ _ _ h => h) (Or.inl ⟨by rfl, ?_⟩) ?_ ?_
                              rotate_left
                              · intro w'
                                go_simp
                                with_reducible rfl
                              rotate_left
                              · simp only [Act.put, List.setIfInBounds_toArray, List.set_cons_zero, List.set_cons_succ, i64_w, i32_w]
                                rfl
                              refine pure_ (i := 7) (N := some 98) (v := ?_) (a' := ?_) #[true, true, true, true, true, true, true, true, false, false, false, false, false, false, false, false, false] rfl rfl (any_of HT_.out (by kernel_rfl)) (fun _ _ _ h => h) (Or.inl ⟨by rfl, ?_⟩) ?_ ?_
                              rotate_left
                              · intro w'
                                go_simp
                                with_reducible rfl
                              rotate_left
                              · simp only [Act.put, List.setIfInBounds_toArray, List.set_cons_zero, List.set_cons_succ, i64_w, i32_w]
                                rfl
                              refine pure_ (i := 9) (N := some 100) (v := ?_) (a' := ?_) #[true, true, true, true, true, true, true, true, false, true, false, false, false, false, false, false, false] rfl rfl (any_of HT_.out (by kernel_rfl)) (fun _ _ _ h => h) (Or.inl ⟨by rfl, ?_⟩) ?_ ?_
                              rotate_left
                              · intro w'
                                go_simp
                                with_reducible rfl
                              rotate_left
                              · simp only [Act.put, List.setIfInBounds_toArray, List.set_cons_zero, List.set_cons_succ, i64_w, i32_w]
                                rfl
                              refine pure_ (i := 11) (N := some 102) (v := ?_) (a' := ?_) #[true, true, true, true, true, true, true, true, false, true, false, true, false, false, false, false, false] rfl rfl (any_of HT_.out (by kernel_rfl)) (fun _ _ _ h => h) (Or.inl ⟨by rfl, ?_⟩) ?_ ?_
                              rotate_left
                              · intro w'
                                go_simp
                                with_reducible rfl
                              rotate_left
                              · simp only [Act.put, List.setIfInBounds_toArray, List.set_cons_zero, List.set_cons_succ, i64_w, i32_w]
                                rfl
                              refine take_ (i := 8) (N := some 99) (v := ?_) (a' := ?_) #[true, true, true, true, true, true, true, true, true, true, false, true, false, false, false, false, false] rfl rfl (take_ofW HT_.out HW_.out (by kernel_rfl)) (fun _ _ _ h => h) (Or.inl ⟨by rfl, ?_⟩) hHeld ?_ ?_
                              rotate_left
                              · rintro w' ⟨s0, s1, s2, s3, s4, s5, s6, s7, s8, s9, s10, s11, s12, s13⟩
                                go_simp
                                with_reducible rfl
                              rotate_left
                              · simp only [Act.put, List.setIfInBounds_toArray, List.set_cons_zero, List.set_cons_succ, i64_w, i32_w]
                                rfl
                              refine take_ (i := 10) (N := some 101) (v := ?_) (a' := ?_) #[true, true, true, true, true, true, true, true, true, true, true, true, false, false, false, false, false] rfl rfl (take_ofW HT_.out HW_.out (by kernel_rfl)) (fun _ _ _ h => h) (Or.inl ⟨by rfl, ?_⟩) hHeld ?_ ?_
                              rotate_left
                              · rintro w' ⟨s0, s1, s2, s3, s4, s5, s6, s7, s8, s9, s10, s11, s12, s13⟩
                                go_simp
                                with_reducible rfl
                              rotate_left
                              · simp only [Act.put, List.setIfInBounds_toArray, List.set_cons_zero, List.set_cons_succ, i64_w, i32_w]
                                rfl
                              refine pure_ (i := 12) (N := some 103) (v := ?_) (a' := ?_) #[true, true, true, true, true, true, true, true, true, true, true, true, true, false, false, false, false] rfl rfl (any_of HT_.out (by kernel_rfl)) (fun _ _ _ h => h) (Or.inl ⟨by rfl, ?_⟩) ?_ ?_
                              rotate_left
                              · intro w'
                                go_simp
                                with_reducible rfl
                              rotate_left
                              · simp only [Act.put, List.setIfInBounds_toArray, List.set_cons_zero, List.set_cons_succ, i64_w, i32_w]
                                rfl
                              refine take_ (i := 13) (N := some 104) (v := ?_) (a' := ?_) #[true, true, true, true, true, true, true, true, true, true, true, true, true, true, false, false, false] rfl rfl (take_ofW HT_.out HW_.out (by kernel_rfl)) (fun _ _ _ h => h) (Or.inl ⟨by rfl, ?_⟩) hHeld ?_ ?_
                              rotate_left
                              · rintro w' ⟨s0, s1, s2, s3, s4, s5, s6, s7, s8, s9, s10, s11, s12, s13⟩
                                go_simp
                                with_reducible rfl
                              rotate_left
                              · simp only [Act.put, List.setIfInBounds_toArray, List.set_cons_zero, List.set_cons_succ, i64_w, i32_w]
                                rfl
                              refine one_ (i := 14) (N := some 105) #[true, true, true, true, true, true, true, true, true, true, true, true, true, true, true, false, false] rfl rfl (one_of HT_.out (by kernel_rfl)) (by decide) (fun K hK => ?_)
                              refine goes_ Tryd.func39 (by kernel_rfl) rfl #[.agg #[.string ((rd_T44 t11003 x13_3).f0), .slice A11021_1 ((rd_T44 t11003 x13_3).f1).length c11021_1, .int .i64 ((rd_T44 t11003 x13_3).f2), .slice A11021_3 ((rd_T44 t11003 x13_3).f3).length c11021_3, .slice A11021_4 ((rd_T44 t11003 x13_3).f4).length c11021_4], .agg #[.string ((rd_T44 l0_0 x13_3).f0), .slice A11022_1 ((rd_T44 l0_0 x13_3).f1).length c11022_1, .int .i64 ((rd_T44 l0_0 x13_3).f2), .slice A11022_3 ((rd_T44 l0_0 x13_3).f3).length c11022_3, .slice A11022_4 ((rd_T44 l0_0 x13_3).f4).length c11022_4]] (by rfl) rfl rfl (by (try simp only [List.map_toArray, List.map_cons, List.map_nil]); first | done | rfl | (simp only [List.length_drop, List.length_take]; rfl)) ?_
                              with_reducible refine (tinderref08_SameNode.calls k3 ((rd_T44 t11003 x13_3).f0) _ _ ((rd_T44 t11003 x13_3).f1) ((rd_T44 t11003 x13_3).f2) _ _ ((rd_T44 t11003 x13_3).f3) _ _ ((rd_T44 t11003 x13_3).f4) ((rd_T44 l0_0 x13_3).f0) _ _ ((rd_T44 l0_0 x13_3).f1) ((rd_T44 l0_0 x13_3).f2) _ _ ((rd_T44 l0_0 x13_3).f3) _ _ ((rd_T44 l0_0 x13_3).f4) true _ ?side1 ?side2 ?side3 ?side4 ?side5 ?side6 ?side7 ?side8 ?side9 ?side10 ?side11 ?side12 A50.out).mono ?_
                              (case side1 => repeat (first | exact (by repeat (first | (with_reducible exact HR11021_1.out) | (with_reducible refine Kd.C_alloc ?_ _) | (with_reducible refine Kd.C_drewN ?_ _) | (with_reducible refine Kd.C_drew ?_) | exact HR11021_1.out)) | (with_reducible refine Kd.C_alloc ?_ _) | (with_reducible refine Kd.C_drewN ?_ _) | (with_reducible refine Kd.C_drew ?_)))
                              (case side2 => exact HC11021_1.out)
                              (case side3 => repeat (first | exact (by repeat (first | (with_reducible exact HR11021_3.out) | (with_reducible refine Kd.C_alloc ?_ _) | (with_reducible refine Kd.C_drewN ?_ _) | (with_reducible refine Kd.C_drew ?_) | exact HR11021_3.out)) | (with_reducible refine Kd.C_alloc ?_ _) | (with_reducible refine Kd.C_drewN ?_ _) | (with_reducible refine Kd.C_drew ?_)))
                              (case side4 => exact HC11021_3.out)
                              (case side5 => repeat (first | exact (by repeat (first | (with_reducible exact HR11021_4.out) | (with_reducible refine Kd.C_alloc ?_ _) | (with_reducible refine Kd.C_drewN ?_ _) | (with_reducible refine Kd.C_drew ?_) | exact HR11021_4.out)) | (with_reducible refine Kd.C_alloc ?_ _) | (with_reducible refine Kd.C_drewN ?_ _) | (with_reducible refine Kd.C_drew ?_)))
                              (case side6 => exact HC11021_4.out)
                              (case side7 => repeat (first | exact (Kd.C_below HR11022_1.out HB.out) | (with_reducible refine Kd.C_alloc ?_ _) | (with_reducible refine Kd.C_drewN ?_ _) | (with_reducible refine Kd.C_drew ?_)))
                              (case side8 => exact HC11022_1.out)
                              (case side9 => repeat (first | exact (Kd.C_below HR11022_3.out HB.out) | (with_reducible refine Kd.C_alloc ?_ _) | (with_reducible refine Kd.C_drewN ?_ _) | (with_reducible refine Kd.C_drew ?_)))
                              (case side10 => exact HC11022_3.out)
                              (case side11 => repeat (first | exact (Kd.C_below HR11022_4.out HB.out) | (with_reducible refine Kd.C_alloc ?_ _) | (with_reducible refine Kd.C_drewN ?_ _) | (with_reducible refine Kd.C_drew ?_)))
                              (case side12 => exact HC11022_4.out)
                              rintro e w53 ⟨rfl, hb⟩
                              have HS4_ := (hb.cell (World.block_lt_of_cell? _ _ (hHeld.2.2.2.2.1))).trans (hHeld.2.2.2.2.1)
                              have HS5_ := (hb.cell (World.block_lt_of_cell? _ _ (hHeld.2.2.2.2.2.1))).trans (hHeld.2.2.2.2.2.1)
                              have HS6_ := (hb.cell (World.block_lt_of_cell? _ _ (hHeld.2.2.2.2.2.2.1))).trans (hHeld.2.2.2.2.2.2.1)
                              have HS7_ := (hb.cell (World.block_lt_of_cell? _ _ (hHeld.2.2.2.2.2.2.2.1))).trans (hHeld.2.2.2.2.2.2.2.1)
                              have HS8_ := (hb.cell (World.block_lt_of_cell? _ _ (hHeld.2.2.2.2.2.2.2.2.1))).trans (hHeld.2.2.2.2.2.2.2.2.1)
                              refine ⟨_, rfl, ?_⟩
                              have n0_ := Aside0.mk (Kd.R_below (by (with_reducible repeat (first | apply Kd.R_alloc | apply Kd.R_drewN | apply Kd.R_drew)); exact HO_5.out) hb)
                              have n1_ := Aside0.mk (Kd.R_below (by (with_reducible repeat (first | apply Kd.R_alloc | apply Kd.R_drewN | apply Kd.R_drew)); exact HL11021_1.out) hb)
                              have n2_ := Aside0.mk (Kd.R_below (by (with_reducible repeat (first | apply Kd.R_alloc | apply Kd.R_drewN | apply Kd.R_drew)); exact HL11021_3.out) hb)
                              have n3_ := Aside0.mk (Kd.R_below (by (with_reducible repeat (first | apply Kd.R_alloc | apply Kd.R_drewN | apply Kd.R_drew)); exact HL11021_4.out) hb)
                              have n4_ := Aside0.mk (blk_below (g := gb11001) (o := .cells #[.slice (some ad11022) l0_0.length c0_0, .int .i64 a0_1, .string a0_2, .slice A0_3 l0_3.length c0_3] 30 (0, 0)) (by (with_reducible repeat (first | refine blk_drewN ?_ _ | refine blk_drew ?_ | refine blk_alloc ?_ _)); exact BK11001.out) hb)
                              have n5_ := Aside0.mk (Kd.C_below (by repeat (first | (with_reducible exact HR11021_1.out) | (with_reducible refine Kd.C_alloc ?_ _) | (with_reducible refine Kd.C_drewN ?_ _) | (with_reducible refine Kd.C_drew ?_) | exact HR11021_1.out)) hb)
                              have n6_ := Aside0.mk (Kd.C_below (by repeat (first | (with_reducible exact HR11021_3.out) | (with_reducible refine Kd.C_alloc ?_ _) | (with_reducible refine Kd.C_drewN ?_ _) | (with_reducible refine Kd.C_drew ?_) | exact HR11021_3.out)) hb)
                              have n7_ := Aside0.mk (Kd.C_below (by repeat (first | (with_reducible exact HR11021_4.out) | (with_reducible refine Kd.C_alloc ?_ _) | (with_reducible refine Kd.C_drewN ?_ _) | (with_reducible refine Kd.C_drew ?_) | exact HR11021_4.out)) hb)
                              have n8_ := Aside0.mk (below_step (by repeat (first | (with_reducible first | exact HB.out | apply below_alloc | apply pw_below_drewN | apply below_drew1 | refine below_set ?_ GE11001.out) | exact HB.out)) hb)
                              clear HO_5
                              clear HL11021_1
                              clear HL11021_3
                              clear HL11021_4
                              clear BK11001
                              clear HR11021_1
                              clear HR11021_3
                              clear HR11021_4
                              clear HB
                              have HO_5 := n0_
                              have HL11021_1 := n1_
                              have HL11021_3 := n2_
                              have HL11021_4 := n3_
                              have BK11001 := n4_
                              have HR11021_1 := n5_
                              have HR11021_3 := n6_
                              have HR11021_4 := n7_
                              have HB := n8_
                              clear n0_ n1_ n2_ n3_ n4_ n5_ n6_ n7_ n8_
                              (try clear hb)
                              (try clear hb2)
                              (try clear hk)
                              (try clear hi)
                              refine hK.out _ _ ⟨(blk_cell BK11001.out 0).trans rfl, (blk_cell BK11001.out 1).trans rfl, (blk_cell BK11001.out 2).trans rfl, (blk_cell BK11001.out 3).trans rfl, HS4_, HS5_, HS6_, HS7_, HS8_, ((HB.out.cell (World.block_lt_of_cell? w _ hw11022_0)).trans hw11022_0), ((HB.out.cell (World.block_lt_of_cell? w _ hw11022_1)).trans hw11022_1), ((HB.out.cell (World.block_lt_of_cell? w _ hw11022_2)).trans hw11022_2), ((HB.out.cell (World.block_lt_of_cell? w _ hw11022_3)).trans hw11022_3), ((HB.out.cell (World.block_lt_of_cell? w _ hw11022_4)).trans hw11022_4)⟩ (fun hHeld => ?_)
                              clear hK K
                              refine norm_ (a' := ?_) ?_ ?_
                              rotate_left
                              · show Act.put _ (some 105) _ = _
                                simp only [Act.put, List.setIfInBounds_toArray, List.set_cons_zero, List.set_cons_succ, i64_w, i32_w]
                                rfl
                              refine pure_ (i := 15) (N := some 106) (v := ?_) (a' := ?_) #[true, true, true, true, true, true, true, true, true, true, true, true, true, true, true, true, false] rfl rfl (any_of HT_.out (by kernel_rfl)) (fun _ _ _ h => h) (Or.inl ⟨by rfl, ?_⟩) ?_ ?_
                              rotate_left
                              · intro w'
                                go_simp
                                with_reducible rfl
                              rotate_left
                              · simp only [Act.put, List.setIfInBounds_toArray, List.set_cons_zero, List.set_cons_succ, i64_w, i32_w]
                                rfl
                              refine pure_ (i := 16) (N := some 107) (v := ?_) (a' := ?_) #[true, true, true, true, true, true, true, true, true, true, true, true, true, true, true, true, true] rfl rfl (any_of HT_.out (by kernel_rfl)) (fun _ _ _ h => h) (Or.inl ⟨by rfl, ?_⟩) ?_ ?_
                              rotate_left
                              · intro w'
                                go_simp
                                with_reducible rfl
                              rotate_left
                              · simp only [Act.put, List.setIfInBounds_toArray, List.set_cons_zero, List.set_cons_succ, i64_w, i32_w]
                                rfl
                              refine done_ (done_of HT_.out (by kernel_rfl)) ?_
                              try go_wp2
                              go_roundg k3
                              case measure => have := HJ7.out; have := HJ20.out; have := HK3.out; omega
                              case rel => exact ⟨(wrap64 (x13_3 + 1)), (by first | rfl | (simp; done) | (simp [*]; done)), H', ⟨by have := HJ7.out; have := HJ20.out; have := HK3.out; omega⟩, ⟨by (with_reducible repeat (first | apply Kd.R_alloc | apply Kd.R_drewN | apply Kd.R_drew)); exact HO_5.out⟩, ⟨by (with_reducible repeat (first | refine blk_drewN ?_ _ | refine blk_drew ?_ | refine blk_alloc ?_ _)); exact BK11001.out⟩, ⟨by repeat (first | (with_reducible first | exact HB.out | apply below_alloc | apply pw_below_drewN | apply below_drew1 | refine below_set ?_ GE11001.out) | exact HB.out)⟩⟩
                            · replace c51 := Bool.eq_false_iff.mpr c51
                              subst c51
                              have H1 : (some false) = some r := by rw [if_neg (show ¬ (false = true) by decide)] at H; exact H
                              clear H
                              have H := H1
                              clear H1
                              obtain rfl := Option.some.inj H
                              try go_wp2
                              have n0_ := Aside0.mk (Kd.R_drew HO_5.out)
                              have n1_ := Aside0.mk (blk_drew BK11001.out)
                              have n2_ := Aside0.mk (below_drew1 HB.out)
                              clear HO_5
                              clear BK11001
                              clear HB
                              have HO_5 := n0_
                              have BK11001 := n1_
                              have HB := n2_
                              clear n0_ n1_ n2_
                              have p11021 : 0 ≤ (x13_3 : Int) := of_decide_eq_true (by first | (with_reducible assumption) | assumption)
                              have q11021 : x13_3 < (t11003.length : Int) := of_decide_eq_true (by first | (with_reducible assumption) | assumption)
                              obtain ⟨ad11021, A11021_1, c11021_1, A11021_3, c11021_3, A11021_4, c11021_4, e11021, hx11021_0, hx11021_1, hx11021_2, hx11021_3, hx11021_4, hl11021_1, hi11021_1, hl11021_3, hi11021_3, hl11021_4, hi11021_4⟩ := at_T44 (Kd.R_reads' HO_5.out).2.2 x13_3 p11021 q11021
                              cases e11021
                              obtain ⟨ce11021, hce11021, hMe11021, hcc11021⟩ := Kd.R_get HO_5.out z44 x13_3 p11021 (by first | exact q11021 | exact of_decide_eq_true (by first | (with_reducible assumption) | assumption) | (have e_ := (Kd.R_reads' HO_5.out).1; omega))
                              obtain ⟨ve11021_1, ve11021_3, ve11021_4, rfl, ge11021_1, ge11021_3, ge11021_4⟩ := k44_openM hMe11021
                              have hv11021_1 := hcc11021 1 _ rfl
                              rw [add_field _ _ 1 (by omega)] at hv11021_1
                              replace hv11021_1 := Option.some.inj (hv11021_1.symm.trans hx11021_1)
                              rw [hv11021_1] at ge11021_1
                              have HL11021_1 := Aside0.mk (show Kd.R (Kd.int .u32) 66 _ _ _ _ ((rd_T44 t11003 x13_3).f1) from ge11021_1)
                              clear hv11021_1 ge11021_1
                              have hv11021_3 := hcc11021 3 _ rfl
                              rw [add_field _ _ 3 (by omega)] at hv11021_3
                              replace hv11021_3 := Option.some.inj (hv11021_3.symm.trans hx11021_3)
                              rw [hv11021_3] at ge11021_3
                              have HL11021_3 := Aside0.mk (show Kd.R k53 53 _ _ _ _ ((rd_T44 t11003 x13_3).f3) from ge11021_3)
                              clear hv11021_3 ge11021_3
                              have hv11021_4 := hcc11021 4 _ rfl
                              rw [add_field _ _ 4 (by omega)] at hv11021_4
                              replace hv11021_4 := Option.some.inj (hv11021_4.symm.trans hx11021_4)
                              rw [hv11021_4] at ge11021_4
                              have HL11021_4 := Aside0.mk (show Kd.R (Kd.int .u32) 66 _ _ _ _ ((rd_T44 t11003 x13_3).f4) from ge11021_4)
                              clear hv11021_4 ge11021_4
                              clear hcc11021 hce11021
                              have HR11021_1 := Aside0.mk hi11021_1
                              have HC11021_1 := Aside0.mk hl11021_1
                              clear hi11021_1 hl11021_1
                              have HR11021_3 := Aside0.mk hi11021_3
                              have HC11021_3 := Aside0.mk hl11021_3
                              clear hi11021_3 hl11021_3
                              have HR11021_4 := Aside0.mk hi11021_4
                              have HC11021_4 := Aside0.mk hl11021_4
                              clear hi11021_4 hl11021_4
                              replace p11021 := eq_true p11021
                              replace q11021 := eq_true q11021
                              have p11022 : 0 ≤ (x13_3 : Int) := of_decide_eq_true (by first | (with_reducible assumption) | assumption)
                              have q11022 : x13_3 < (l0_0.length : Int) := of_decide_eq_true (by first | (with_reducible assumption) | assumption)
                              obtain ⟨ad11022, A11022_1, c11022_1, A11022_3, c11022_3, A11022_4, c11022_4, e11022, hx11022_0, hx11022_1, hx11022_2, hx11022_3, hx11022_4, hl11022_1, hi11022_1, hl11022_3, hi11022_3, hl11022_4, hi11022_4⟩ := at_T44 HR0_0.out x13_3 p11022 q11022
                              have hw11022_4 := hx11022_4
                              have hw11022_3 := hx11022_3
                              have hw11022_2 := hx11022_2
                              have hw11022_1 := hx11022_1
                              have hw11022_0 := hx11022_0
                              cases e11022
                              replace hx11022_0 := (HB.out.cell (World.block_lt_of_cell? w _ hx11022_0)).trans hx11022_0
                              replace hx11022_1 := (HB.out.cell (World.block_lt_of_cell? w _ hx11022_1)).trans hx11022_1
                              replace hx11022_2 := (HB.out.cell (World.block_lt_of_cell? w _ hx11022_2)).trans hx11022_2
                              replace hx11022_3 := (HB.out.cell (World.block_lt_of_cell? w _ hx11022_3)).trans hx11022_3
                              replace hx11022_4 := (HB.out.cell (World.block_lt_of_cell? w _ hx11022_4)).trans hx11022_4
                              have HR11022_1 := Aside0.mk hi11022_1
                              have HC11022_1 := Aside0.mk hl11022_1
                              clear hi11022_1 hl11022_1
                              have HR11022_3 := Aside0.mk hi11022_3
                              have HC11022_3 := Aside0.mk hl11022_3
                              clear hi11022_3 hl11022_3
                              have HR11022_4 := Aside0.mk hi11022_4
                              have HC11022_4 := Aside0.mk hl11022_4
                              clear hi11022_4 hl11022_4
                              replace p11022 := eq_true p11022
                              replace q11022 := eq_true q11022
                              refine start_ (n := 17) (S := fun w' => w'.cell? ⟨gb11001, 0, none⟩ = some (.slice (some ad11022) l0_0.length c0_0) ∧ w'.cell? ⟨gb11001, 1, none⟩ = some (.int .i64 a0_1) ∧ w'.cell? ⟨gb11001, 2, none⟩ = some (.string a0_2) ∧ w'.cell? ⟨gb11001, 3, none⟩ = some (.slice A0_3 l0_3.length c0_3) ∧ w'.cell? (ad11021.add ((x13_3).toNat * 5)) = some (.string ((rd_T44 t11003 x13_3).f0)) ∧ w'.cell? ⟨(ad11021.add ((x13_3).toNat * 5)).block, (ad11021.add ((x13_3).toNat * 5)).off + 1, none⟩ = some (.slice A11021_1 ((rd_T44 t11003 x13_3).f1).length c11021_1) ∧ w'.cell? ⟨(ad11021.add ((x13_3).toNat * 5)).block, (ad11021.add ((x13_3).toNat * 5)).off + 2, none⟩ = some (.int .i64 ((rd_T44 t11003 x13_3).f2)) ∧ w'.cell? ⟨(ad11021.add ((x13_3).toNat * 5)).block, (ad11021.add ((x13_3).toNat * 5)).off + 3, none⟩ = some (.slice A11021_3 ((rd_T44 t11003 x13_3).f3).length c11021_3) ∧ w'.cell? ⟨(ad11021.add ((x13_3).toNat * 5)).block, (ad11021.add ((x13_3).toNat * 5)).off + 4, none⟩ = some (.slice A11021_4 ((rd_T44 t11003 x13_3).f4).length c11021_4) ∧ w'.cell? (ad11022.add ((x13_3).toNat * 5)) = some (.string ((rd_T44 l0_0 x13_3).f0)) ∧ w'.cell? ⟨(ad11022.add ((x13_3).toNat * 5)).block, (ad11022.add ((x13_3).toNat * 5)).off + 1, none⟩ = some (.slice A11022_1 ((rd_T44 l0_0 x13_3).f1).length c11022_1) ∧ w'.cell? ⟨(ad11022.add ((x13_3).toNat * 5)).block, (ad11022.add ((x13_3).toNat * 5)).off + 2, none⟩ = some (.int .i64 ((rd_T44 l0_0 x13_3).f2)) ∧ w'.cell? ⟨(ad11022.add ((x13_3).toNat * 5)).block, (ad11022.add ((x13_3).toNat * 5)).off + 3, none⟩ = some (.slice A11022_3 ((rd_T44 l0_0 x13_3).f3).length c11022_3) ∧ w'.cell? ⟨(ad11022.add ((x13_3).toNat * 5)).block, (ad11022.add ((x13_3).toNat * 5)).off + 4, none⟩ = some (.slice A11022_4 ((rd_T44 l0_0 x13_3).f4).length c11022_4)) (ds := []) #[false, false, false, false, false, false, false, false, false, false, false, false, false, false, false, false, false] (by kernel_rfl) rfl rfl ⟨(blk_cell BK11001.out 0).trans rfl, (blk_cell BK11001.out 1).trans rfl, (blk_cell BK11001.out 2).trans rfl, (blk_cell BK11001.out 3).trans rfl, hx11021_0, hx11021_1, hx11021_2, hx11021_3, hx11021_4, ((HB.out.cell (World.block_lt_of_cell? w _ hw11022_0)).trans hw11022_0), ((HB.out.cell (World.block_lt_of_cell? w _ hw11022_1)).trans hw11022_1), ((HB.out.cell (World.block_lt_of_cell? w _ hw11022_2)).trans hw11022_2), ((HB.out.cell (World.block_lt_of_cell? w _ hw11022_3)).trans hw11022_3), ((HB.out.cell (World.block_lt_of_cell? w _ hw11022_4)).trans hw11022_4)⟩ (fun hHeld => ?_); refine with_tabW tinderlaw08_TreeKeeps.tab17 tinderlaw08_TreeKeeps.bits17 (fun HT_ HW_ => ?_)
                              generalize wr.drew = w54 at HO_5 BK11001 HB HL11021_1 HL11021_3 HL11021_4 HR11021_1 HR11021_3 HR11021_4 HR11022_1 HR11022_3 HR11022_4 hx11021_0 hx11021_1 hx11021_2 hx11021_3 hx11021_4 hx11022_0 hx11022_1 hx11022_2 hx11022_3 hx11022_4 hHeld ⊢
                              refine pure_ (i := 0) (N := some 91) (v := ?_) (a' := ?_) #[true, false, false, false, false, false, false, false, false, false, false, false, false, false, false, false, false] rfl rfl (any_of HT_.out (by kernel_rfl)) (fun _ _ _ h => h) (Or.inl ⟨by rfl, ?_⟩) ?_ ?_
                              rotate_left
                              · intro w'
                                go_simp
                                with_reducible rfl
                              rotate_left
                              · simp only [Act.put, List.setIfInBounds_toArray, List.set_cons_zero, List.set_cons_succ, i64_w, i32_w]
                                rfl
                              refine pure_ (i := 1) (N := some 92) (v := ?_) (a' := ?_) #[true, true, false, false, false, false, false, false, false, false, false, false, false, false, false, false, false] rfl rfl (any_of HT_.out (by kernel_rfl)) (fun _ _ _ h => h) (Or.inl ⟨by rfl, ?_⟩) ?_ ?_
                              rotate_left
                              · intro w'
                                go_simp
                                with_reducible rfl
                              rotate_left
                              · simp only [Act.put, List.setIfInBounds_toArray, List.set_cons_zero, List.set_cons_succ, i64_w, i32_w]
                                rfl
                              refine take_ (i := 2) (N := some 93) (v := ?_) (a' := ?_) #[true, true, true, false, false, false, false, false, false, false, false, false, false, false, false, false, false] rfl rfl (take_ofW HT_.out HW_.out (by kernel_rfl)) (fun _ _ _ h => h) (Or.inl ⟨by rfl, ?_⟩) hHeld ?_ ?_
                              rotate_left
                              · rintro w' ⟨s0, s1, s2, s3, s4, s5, s6, s7, s8, s9, s10, s11, s12, s13⟩
                                go_simp
                                with_reducible rfl
                              rotate_left
                              · simp only [Act.put, List.setIfInBounds_toArray, List.set_cons_zero, List.set_cons_succ, i64_w, i32_w]
                                rfl
                              refine pure_ (i := 3) (N := some 94) (v := ?_) (a' := ?_) #[true, true, true, true, false, false, false, false, false, false, false, false, false, false, false, false, false] rfl rfl (any_of HT_.out (by kernel_rfl)) (fun _ _ _ h => h) (Or.inl ⟨by rfl, ?_⟩) ?_ ?_
                              rotate_left
                              · intro w'
                                go_simp
                                with_reducible rfl
                              rotate_left
                              · simp only [Act.put, List.setIfInBounds_toArray, List.set_cons_zero, List.set_cons_succ, i64_w, i32_w]
                                rfl
                              refine pure_ (i := 4) (N := some 95) (v := ?_) (a' := ?_) #[true, true, true, true, true, false, false, false, false, false, false, false, false, false, false, false, false] rfl rfl (any_of HT_.out (by kernel_rfl)) (fun _ _ _ h => h) (Or.inl ⟨by rfl, ?_⟩) ?_ ?_
                              rotate_left
                              · intro w'
                                go_simp
                                with_reducible rfl
                              rotate_left
                              · simp only [Act.put, List.setIfInBounds_toArray, List.set_cons_zero, List.set_cons_succ, i64_w, i32_w]
                                rfl
                              refine pure_ (i := 5) (N := some 96) (v := ?_) (a' := ?_) #[true, true, true, true, true, true, false, false, false, false, false, false, false, false, false, false, false] rfl rfl (any_of HT_.out (by kernel_rfl)) (fun _ _ _ h => h) (Or.inl ⟨by rfl, ?_⟩) ?_ ?_
                              rotate_left
                              · intro w'
                                go_simp
                                with_reducible rfl
                              rotate_left
                              · simp only [Act.put, List.setIfInBounds_toArray, List.set_cons_zero, List.set_cons_succ, i64_w, i32_w]
                                rfl
                              refine pure_ (i := 6) (N := some 97) (v := ?_) (a' := ?_) #[true, true, true, true, true, true, true, false, false, false, false, false, false, false, false, false, false] rfl rfl (any_of HT_.out (by kernel_rfl)) (fun _ _ _ h => h) (Or.inl ⟨by rfl, ?_⟩) ?_ ?_
                              rotate_left
                              · intro w'
                                go_simp
                                with_reducible rfl
                              rotate_left
                              · simp only [Act.put, List.setIfInBounds_toArray, List.set_cons_zero, List.set_cons_succ, i64_w, i32_w]
                                rfl
                              refine pure_ (i := 7) (N := some 98) (v := ?_) (a' := ?_) #[true, true, true, true, true, true, true, true, false, false, false, false, false, false, false, false, false] rfl rfl (any_of HT_.out (by kernel_rfl)) (fun _ _ _ h => h) (Or.inl ⟨by rfl, ?_⟩) ?_ ?_
                              rotate_left
                              · intro w'
                                go_simp
                                with_reducible rfl
                              rotate_left
                              · simp only [Act.put, List.setIfInBounds_toArray, List.set_cons_zero, List.set_cons_succ, i64_w, i32_w]
                                rfl
                              refine pure_ (i := 9) (N := some 100) (v := ?_) (a' := ?_) #[true, true, true, true, true, true, true, true, false, true, false, false, false, false, false, false, false] rfl rfl (any_of HT_.out (by kernel_rfl)) (fun _ _ _ h => h) (Or.inl ⟨by rfl, ?_⟩) ?_ ?_
                              rotate_left
                              · intro w'
                                go_simp
                                with_reducible rfl
                              rotate_left
                              · simp only [Act.put, List.setIfInBounds_toArray, List.set_cons_zero, List.set_cons_succ, i64_w, i32_w]
                                rfl
                              refine pure_ (i := 11) (N := some 102) (v := ?_) (a' := ?_) #[true, true, true, true, true, true, true, true, false, true, false, true, false, false, false, false, false] rfl rfl (any_of HT_.out (by kernel_rfl)) (fun _ _ _ h => h) (Or.inl ⟨by rfl, ?_⟩) ?_ ?_
                              rotate_left
                              · intro w'
                                go_simp
                                with_reducible rfl
                              rotate_left
                              · simp only [Act.put, List.setIfInBounds_toArray, List.set_cons_zero, List.set_cons_succ, i64_w, i32_w]
                                rfl
                              refine take_ (i := 8) (N := some 99) (v := ?_) (a' := ?_) #[true, true, true, true, true, true, true, true, true, true, false, true, false, false, false, false, false] rfl rfl (take_ofW HT_.out HW_.out (by kernel_rfl)) (fun _ _ _ h => h) (Or.inl ⟨by rfl, ?_⟩) hHeld ?_ ?_
                              rotate_left
                              · rintro w' ⟨s0, s1, s2, s3, s4, s5, s6, s7, s8, s9, s10, s11, s12, s13⟩
                                go_simp
                                with_reducible rfl
                              rotate_left
                              · simp only [Act.put, List.setIfInBounds_toArray, List.set_cons_zero, List.set_cons_succ, i64_w, i32_w]
                                rfl
                              refine take_ (i := 10) (N := some 101) (v := ?_) (a' := ?_) #[true, true, true, true, true, true, true, true, true, true, true, true, false, false, false, false, false] rfl rfl (take_ofW HT_.out HW_.out (by kernel_rfl)) (fun _ _ _ h => h) (Or.inl ⟨by rfl, ?_⟩) hHeld ?_ ?_
                              rotate_left
                              · rintro w' ⟨s0, s1, s2, s3, s4, s5, s6, s7, s8, s9, s10, s11, s12, s13⟩
                                go_simp
                                with_reducible rfl
                              rotate_left
                              · simp only [Act.put, List.setIfInBounds_toArray, List.set_cons_zero, List.set_cons_succ, i64_w, i32_w]
                                rfl
                              refine pure_ (i := 12) (N := some 103) (v := ?_) (a' := ?_) #[true, true, true, true, true, true, true, true, true, true, true, true, true, false, false, false, false] rfl rfl (any_of HT_.out (by kernel_rfl)) (fun _ _ _ h => h) (Or.inl ⟨by rfl, ?_⟩) ?_ ?_
                              rotate_left
                              · intro w'
                                go_simp
                                with_reducible rfl
                              rotate_left
                              · simp only [Act.put, List.setIfInBounds_toArray, List.set_cons_zero, List.set_cons_succ, i64_w, i32_w]
                                rfl
                              refine take_ (i := 13) (N := some 104) (v := ?_) (a' := ?_) #[true, true, true, true, true, true, true, true, true, true, true, true, true, true, false, false, false] rfl rfl (take_ofW HT_.out HW_.out (by kernel_rfl)) (fun _ _ _ h => h) (Or.inl ⟨by rfl, ?_⟩) hHeld ?_ ?_
                              rotate_left
                              · rintro w' ⟨s0, s1, s2, s3, s4, s5, s6, s7, s8, s9, s10, s11, s12, s13⟩
                                go_simp
                                with_reducible rfl
                              rotate_left
                              · simp only [Act.put, List.setIfInBounds_toArray, List.set_cons_zero, List.set_cons_succ, i64_w, i32_w]
                                rfl
                              refine one_ (i := 14) (N := some 105) #[true, true, true, true, true, true, true, true, true, true, true, true, true, true, true, false, false] rfl rfl (one_of HT_.out (by kernel_rfl)) (by decide) (fun K hK => ?_)
                              refine goes_ Tryd.func39 (by kernel_rfl) rfl #[.agg #[.string ((rd_T44 t11003 x13_3).f0), .slice A11021_1 ((rd_T44 t11003 x13_3).f1).length c11021_1, .int .i64 ((rd_T44 t11003 x13_3).f2), .slice A11021_3 ((rd_T44 t11003 x13_3).f3).length c11021_3, .slice A11021_4 ((rd_T44 t11003 x13_3).f4).length c11021_4], .agg #[.string ((rd_T44 l0_0 x13_3).f0), .slice A11022_1 ((rd_T44 l0_0 x13_3).f1).length c11022_1, .int .i64 ((rd_T44 l0_0 x13_3).f2), .slice A11022_3 ((rd_T44 l0_0 x13_3).f3).length c11022_3, .slice A11022_4 ((rd_T44 l0_0 x13_3).f4).length c11022_4]] (by rfl) rfl rfl (by (try simp only [List.map_toArray, List.map_cons, List.map_nil]); first | done | rfl | (simp only [List.length_drop, List.length_take]; rfl)) ?_
                              with_reducible refine (tinderref08_SameNode.calls k3 ((rd_T44 t11003 x13_3).f0) _ _ ((rd_T44 t11003 x13_3).f1) ((rd_T44 t11003 x13_3).f2) _ _ ((rd_T44 t11003 x13_3).f3) _ _ ((rd_T44 t11003 x13_3).f4) ((rd_T44 l0_0 x13_3).f0) _ _ ((rd_T44 l0_0 x13_3).f1) ((rd_T44 l0_0 x13_3).f2) _ _ ((rd_T44 l0_0 x13_3).f3) _ _ ((rd_T44 l0_0 x13_3).f4) false _ ?side1 ?side2 ?side3 ?side4 ?side5 ?side6 ?side7 ?side8 ?side9 ?side10 ?side11 ?side12 A50.out).mono ?_
                              (case side1 => repeat (first | exact (by repeat (first | (with_reducible exact HR11021_1.out) | (with_reducible refine Kd.C_alloc ?_ _) | (with_reducible refine Kd.C_drewN ?_ _) | (with_reducible refine Kd.C_drew ?_) | exact HR11021_1.out)) | (with_reducible refine Kd.C_alloc ?_ _) | (with_reducible refine Kd.C_drewN ?_ _) | (with_reducible refine Kd.C_drew ?_)))
                              (case side2 => exact HC11021_1.out)
                              (case side3 => repeat (first | exact (by repeat (first | (with_reducible exact HR11021_3.out) | (with_reducible refine Kd.C_alloc ?_ _) | (with_reducible refine Kd.C_drewN ?_ _) | (with_reducible refine Kd.C_drew ?_) | exact HR11021_3.out)) | (with_reducible refine Kd.C_alloc ?_ _) | (with_reducible refine Kd.C_drewN ?_ _) | (with_reducible refine Kd.C_drew ?_)))
                              (case side4 => exact HC11021_3.out)
                              (case side5 => repeat (first | exact (by repeat (first | (with_reducible exact HR11021_4.out) | (with_reducible refine Kd.C_alloc ?_ _) | (with_reducible refine Kd.C_drewN ?_ _) | (with_reducible refine Kd.C_drew ?_) | exact HR11021_4.out)) | (with_reducible refine Kd.C_alloc ?_ _) | (with_reducible refine Kd.C_drewN ?_ _) | (with_reducible refine Kd.C_drew ?_)))
                              (case side6 => exact HC11021_4.out)
                              (case side7 => repeat (first | exact (Kd.C_below HR11022_1.out HB.out) | (with_reducible refine Kd.C_alloc ?_ _) | (with_reducible refine Kd.C_drewN ?_ _) | (with_reducible refine Kd.C_drew ?_)))
                              (case side8 => exact HC11022_1.out)
                              (case side9 => repeat (first | exact (Kd.C_below HR11022_3.out HB.out) | (with_reducible refine Kd.C_alloc ?_ _) | (with_reducible refine Kd.C_drewN ?_ _) | (with_reducible refine Kd.C_drew ?_)))
                              (case side10 => exact HC11022_3.out)
                              (case side11 => repeat (first | exact (Kd.C_below HR11022_4.out HB.out) | (with_reducible refine Kd.C_alloc ?_ _) | (with_reducible refine Kd.C_drewN ?_ _) | (with_reducible refine Kd.C_drew ?_)))
                              (case side12 => exact HC11022_4.out)
                              rintro e w55 ⟨rfl, hb⟩
                              have HS4_ := (hb.cell (World.block_lt_of_cell? _ _ (hHeld.2.2.2.2.1))).trans (hHeld.2.2.2.2.1)
                              have HS5_ := (hb.cell (World.block_lt_of_cell? _ _ (hHeld.2.2.2.2.2.1))).trans (hHeld.2.2.2.2.2.1)
                              have HS6_ := (hb.cell (World.block_lt_of_cell? _ _ (hHeld.2.2.2.2.2.2.1))).trans (hHeld.2.2.2.2.2.2.1)
                              have HS7_ := (hb.cell (World.block_lt_of_cell? _ _ (hHeld.2.2.2.2.2.2.2.1))).trans (hHeld.2.2.2.2.2.2.2.1)
                              have HS8_ := (hb.cell (World.block_lt_of_cell? _ _ (hHeld.2.2.2.2.2.2.2.2.1))).trans (hHeld.2.2.2.2.2.2.2.2.1)
                              refine ⟨_, rfl, ?_⟩
                              have n0_ := Aside0.mk (Kd.R_below (by (with_reducible repeat (first | apply Kd.R_alloc | apply Kd.R_drewN | apply Kd.R_drew)); exact HO_5.out) hb)
                              have n1_ := Aside0.mk (Kd.R_below (by (with_reducible repeat (first | apply Kd.R_alloc | apply Kd.R_drewN | apply Kd.R_drew)); exact HL11021_1.out) hb)
                              have n2_ := Aside0.mk (Kd.R_below (by (with_reducible repeat (first | apply Kd.R_alloc | apply Kd.R_drewN | apply Kd.R_drew)); exact HL11021_3.out) hb)
                              have n3_ := Aside0.mk (Kd.R_below (by (with_reducible repeat (first | apply Kd.R_alloc | apply Kd.R_drewN | apply Kd.R_drew)); exact HL11021_4.out) hb)
                              have n4_ := Aside0.mk (blk_below (g := gb11001) (o := .cells #[.slice (some ad11022) l0_0.length c0_0, .int .i64 a0_1, .string a0_2, .slice A0_3 l0_3.length c0_3] 30 (0, 0)) (by (with_reducible repeat (first | refine blk_drewN ?_ _ | refine blk_drew ?_ | refine blk_alloc ?_ _)); exact BK11001.out) hb)
                              have n5_ := Aside0.mk (Kd.C_below (by repeat (first | (with_reducible exact HR11021_1.out) | (with_reducible refine Kd.C_alloc ?_ _) | (with_reducible refine Kd.C_drewN ?_ _) | (with_reducible refine Kd.C_drew ?_) | exact HR11021_1.out)) hb)
                              have n6_ := Aside0.mk (Kd.C_below (by repeat (first | (with_reducible exact HR11021_3.out) | (with_reducible refine Kd.C_alloc ?_ _) | (with_reducible refine Kd.C_drewN ?_ _) | (with_reducible refine Kd.C_drew ?_) | exact HR11021_3.out)) hb)
                              have n7_ := Aside0.mk (Kd.C_below (by repeat (first | (with_reducible exact HR11021_4.out) | (with_reducible refine Kd.C_alloc ?_ _) | (with_reducible refine Kd.C_drewN ?_ _) | (with_reducible refine Kd.C_drew ?_) | exact HR11021_4.out)) hb)
                              have n8_ := Aside0.mk (below_step (by repeat (first | (with_reducible first | exact HB.out | apply below_alloc | apply pw_below_drewN | apply below_drew1 | refine below_set ?_ GE11001.out) | exact HB.out)) hb)
                              clear HO_5
                              clear HL11021_1
                              clear HL11021_3
                              clear HL11021_4
                              clear BK11001
                              clear HR11021_1
                              clear HR11021_3
                              clear HR11021_4
                              clear HB
                              have HO_5 := n0_
                              have HL11021_1 := n1_
                              have HL11021_3 := n2_
                              have HL11021_4 := n3_
                              have BK11001 := n4_
                              have HR11021_1 := n5_
                              have HR11021_3 := n6_
                              have HR11021_4 := n7_
                              have HB := n8_
                              clear n0_ n1_ n2_ n3_ n4_ n5_ n6_ n7_ n8_
                              (try clear hb)
                              (try clear hb2)
                              (try clear hk)
                              (try clear hi)
                              refine hK.out _ _ ⟨(blk_cell BK11001.out 0).trans rfl, (blk_cell BK11001.out 1).trans rfl, (blk_cell BK11001.out 2).trans rfl, (blk_cell BK11001.out 3).trans rfl, HS4_, HS5_, HS6_, HS7_, HS8_, ((HB.out.cell (World.block_lt_of_cell? w _ hw11022_0)).trans hw11022_0), ((HB.out.cell (World.block_lt_of_cell? w _ hw11022_1)).trans hw11022_1), ((HB.out.cell (World.block_lt_of_cell? w _ hw11022_2)).trans hw11022_2), ((HB.out.cell (World.block_lt_of_cell? w _ hw11022_3)).trans hw11022_3), ((HB.out.cell (World.block_lt_of_cell? w _ hw11022_4)).trans hw11022_4)⟩ (fun hHeld => ?_)
                              clear hK K
                              refine norm_ (a' := ?_) ?_ ?_
                              rotate_left
                              · show Act.put _ (some 105) _ = _
                                simp only [Act.put, List.setIfInBounds_toArray, List.set_cons_zero, List.set_cons_succ, i64_w, i32_w]
                                rfl
                              refine pure_ (i := 15) (N := some 106) (v := ?_) (a' := ?_) #[true, true, true, true, true, true, true, true, true, true, true, true, true, true, true, true, false] rfl rfl (any_of HT_.out (by kernel_rfl)) (fun _ _ _ h => h) (Or.inl ⟨by rfl, ?_⟩) ?_ ?_
                              rotate_left
                              · intro w'
                                go_simp
                                with_reducible rfl
                              rotate_left
                              · simp only [Act.put, List.setIfInBounds_toArray, List.set_cons_zero, List.set_cons_succ, i64_w, i32_w]
                                rfl
                              refine pure_ (i := 16) (N := some 107) (v := ?_) (a' := ?_) #[true, true, true, true, true, true, true, true, true, true, true, true, true, true, true, true, true] rfl rfl (any_of HT_.out (by kernel_rfl)) (fun _ _ _ h => h) (Or.inl ⟨by rfl, ?_⟩) ?_ ?_
                              rotate_left
                              · intro w'
                                go_simp
                                with_reducible rfl
                              rotate_left
                              · simp only [Act.put, List.setIfInBounds_toArray, List.set_cons_zero, List.set_cons_succ, i64_w, i32_w]
                                rfl
                              refine done_ (done_of HT_.out (by kernel_rfl)) ?_
                              try go_wp2
                              go_ret
                              exact ⟨by first | rfl | (simp [errW_none, errW_some] <;> rfl) | (simp [*, errW_none, errW_some] <;> rfl), by repeat (first | (with_reducible first | exact HB.out | apply below_alloc | apply pw_below_drewN | apply below_drew1 | refine below_set ?_ GE11001.out) | exact HB.out)⟩
                          · rw [if_neg c49] at H
                            exact absurd H (by simp)
                        · rw [if_neg c48] at H
                          exact absurd H (by simp)
                    · rw [if_neg c45] at H
                      have c45b0 : decide (x13_3 < (t11003.length : Int)) = false := decide_eq_false c45
                      clear c45
                      replace H := Option.bind_eq_some_iff.mp H
                      obtain ⟨⟨t11024, t11025⟩, A560, H⟩ := H
                      replace H : ((tree_Get.f t11024 a0_1 a0_2).bind fun bt11028 => (if t11025 = 0 then (some (bt11028.2 == 2)) else (some false))) = some r := H
                      have A56 := Aside0.mk A560
                      clear A560
                      replace H := Option.bind_eq_some_iff.mp H
                      obtain ⟨⟨t11028, t11029⟩, A570, H⟩ := H
                      replace H : (if t11025 = 0 then (some (t11029 == 2)) else (some false)) = some r := H
                      have A57 := Aside0.mk A570
                      clear A570
                      by_cases c58 : t11025 = 0
                      · rw [if_pos c58] at H
                        have c58b0 : (t11025 == 0) = true := beq_iff_eq.mpr c58
                        have c58b1 : (t11025 != 0) = false := bne_eq_false_iff_eq.mpr c58
                        clear c58
                        obtain rfl := Option.some.inj H
                        have hcz59_0 : wr.cell? ⟨gb11001, 0, none⟩ = some (.slice A0_0 l0_0.length c0_0) := (blk_cell BK11001.out 0).trans rfl
                        have hcz59_1 : wr.cell? ⟨gb11001, 1, none⟩ = some (.int .i64 a0_1) := (blk_cell BK11001.out 1).trans rfl
                        have hcz59_2 : wr.cell? ⟨gb11001, 2, none⟩ = some (.string a0_2) := (blk_cell BK11001.out 2).trans rfl
                        have hcz59_3 : wr.cell? ⟨gb11001, 3, none⟩ = some (.slice A0_3 l0_3.length c0_3) := (blk_cell BK11001.out 3).trans rfl
                        have hfz59_0 := blk_frozen BK11001.out 0
                        have hfz59_1 := blk_frozen BK11001.out 1
                        have hfz59_2 := blk_frozen BK11001.out 2
                        have hfz59_3 := blk_frozen BK11001.out 3
                        go_wp2_with (first | ((with_reducible refine gate_callee (f := 37) rfl ?_); refine goesL_ (some 114) rfl rfl Tryd.func37 (by kernel_rfl) rfl #[.slice Ao14 t11003.length co14, .int .i64 a0_1, .string a0_2] rfl (by (try simp only [List.map_toArray, List.map_cons, List.map_nil]); first | done | rfl | (simp only [List.length_drop, List.length_take]; rfl)) ?_; (with_reducible refine (tree_Drop.calls _ _ t11003 a0_1 a0_2 t11024 t11025 _ ?side1 ?side2 A56.out).mono ?_); (case side1 => repeat (first | exact (Kd.R_reads' HO_5.out).2.2 | (with_reducible refine Kd.C_alloc ?_ _) | (with_reducible refine Kd.C_drewN ?_ _) | (with_reducible refine Kd.C_drew ?_))); (case side2 => exact (Kd.R_reads' HO_5.out).2.1); rintro e w60 ⟨v11026, rfl, ho0, hb⟩; refine ⟨_, rfl, ?_⟩; have n0_ := Aside0.mk (Kd.R_elder' (by (with_reducible repeat (first | apply Kd.R_alloc | apply Kd.R_drewN | apply Kd.R_drew)); exact HO_5.out) (Kd.R_base ho0) hb); have n1_ := Aside0.mk (Kd.R_lower (Kd.R_new' ho0 (Kd.R_lt (by (with_reducible repeat (first | apply Kd.R_alloc | apply Kd.R_drewN | apply Kd.R_drew)); exact HO_5.out))) (below_size (by repeat (first | (with_reducible first | exact HB.out | apply below_alloc | apply pw_below_drewN | apply below_drew1 | refine below_set ?_ GE11001.out) | exact HB.out)))); have n2_ := Aside0.mk (blk_below (g := gb11001) (o := .cells #[.slice A0_0 l0_0.length c0_0, .int .i64 a0_1, .string a0_2, .slice A0_3 l0_3.length c0_3] 30 (0, 0)) (by (with_reducible repeat (first | refine blk_drewN ?_ _ | refine blk_drew ?_ | refine blk_alloc ?_ _)); exact BK11001.out) hb); have n3_ := Aside0.mk (below_step (by repeat (first | (with_reducible first | exact HB.out | apply below_alloc | apply pw_below_drewN | apply below_drew1 | refine below_set ?_ GE11001.out) | exact HB.out)) hb); clear HO_5; clear BK11001; clear HB; have HO_5 := n0_; have HO11027 := n1_; have BK11001 := n2_; have HB := n3_; clear n0_ n1_ n2_ n3_; (try clear hb); (try clear hb2); (try clear hk); (try clear hi); (try clear ho0); have hcz61_0 : w60.cell? ⟨gb11001, 0, none⟩ = some (.slice A0_0 l0_0.length c0_0) := (blk_cell BK11001.out 0).trans rfl; have hcz61_1 : w60.cell? ⟨gb11001, 1, none⟩ = some (.int .i64 a0_1) := (blk_cell BK11001.out 1).trans rfl; have hcz61_2 : w60.cell? ⟨gb11001, 2, none⟩ = some (.string a0_2) := (blk_cell BK11001.out 2).trans rfl; have hcz61_3 : w60.cell? ⟨gb11001, 3, none⟩ = some (.slice A0_3 l0_3.length c0_3) := (blk_cell BK11001.out 3).trans rfl; have hfz61_0 := blk_frozen BK11001.out 0; have hfz61_1 := blk_frozen BK11001.out 1; have hfz61_2 := blk_frozen BK11001.out 2; have hfz61_3 := blk_frozen BK11001.out 3; obtain ⟨Ao62, co62, eo62⟩ := Kd.R_slice HO11027.out; subst eo62) | ((with_reducible refine gate_callee (f := 28) rfl ?_); refine goesL_ (some 123) rfl rfl Tryd.func28 (by kernel_rfl) rfl #[.slice Ao62 t11024.length co62, .int .i64 a0_1, .string a0_2] rfl (by (try simp only [List.map_toArray, List.map_cons, List.map_nil]); first | done | rfl | (simp only [List.length_drop, List.length_take]; rfl)) ?_; (with_reducible refine (tree_Get.calls _ _ t11024 a0_1 a0_2 t11028 t11029 _ ?side1 ?side2 A57.out).mono ?_); (case side1 => repeat (first | exact (Kd.R_reads' HO11027.out).2.2 | (with_reducible refine Kd.C_alloc ?_ _) | (with_reducible refine Kd.C_drewN ?_ _) | (with_reducible refine Kd.C_drew ?_))); (case side2 => exact (Kd.R_reads' HO11027.out).2.1); rintro e w63 ⟨v11030, rfl, ho0, hb⟩; refine ⟨_, rfl, ?_⟩; have n0_ := Aside0.mk (Kd.R_elder' (by (with_reducible repeat (first | apply Kd.R_alloc | apply Kd.R_drewN | apply Kd.R_drew)); exact HO_5.out) (Kd.R_base ho0) hb); have n1_ := Aside0.mk (Kd.R_elder' (by (with_reducible repeat (first | apply Kd.R_alloc | apply Kd.R_drewN | apply Kd.R_drew)); exact HO11027.out) (Kd.R_base ho0) hb); have n2_ := Aside0.mk (Kd.R_lower ho0 (below_size (by repeat (first | (with_reducible first | exact HB.out | apply below_alloc | apply pw_below_drewN | apply below_drew1 | refine below_set ?_ GE11001.out) | exact HB.out)))); have n3_ := Aside0.mk (blk_below (g := gb11001) (o := .cells #[.slice A0_0 l0_0.length c0_0, .int .i64 a0_1, .string a0_2, .slice A0_3 l0_3.length c0_3] 30 (0, 0)) (by (with_reducible repeat (first | refine blk_drewN ?_ _ | refine blk_drew ?_ | refine blk_alloc ?_ _)); exact BK11001.out) hb); have n4_ := Aside0.mk (below_step (by repeat (first | (with_reducible first | exact HB.out | apply below_alloc | apply pw_below_drewN | apply below_drew1 | refine below_set ?_ GE11001.out) | exact HB.out)) hb); clear HO_5; clear HO11027; clear BK11001; clear HB; have HO_5 := n0_; have HO11027 := n1_; have HO11031 := n2_; have BK11001 := n3_; have HB := n4_; clear n0_ n1_ n2_ n3_ n4_; (try clear hb); (try clear hb2); (try clear hk); (try clear hi); (try clear ho0)))
                        go_ret
                        exact ⟨by first | rfl | (simp [errW_none, errW_some] <;> rfl) | (simp [*, errW_none, errW_some] <;> rfl), by repeat (first | (with_reducible first | exact HB.out | apply below_alloc | apply pw_below_drewN | apply below_drew1 | refine below_set ?_ GE11001.out) | exact HB.out)⟩
                      · rw [if_neg c58] at H
                        have c58b0 : (t11025 == 0) = false := beq_eq_false_iff_ne.mpr c58
                        have c58b1 : (t11025 != 0) = true := bne_iff_ne.mpr c58
                        obtain rfl := Option.some.inj H
                        have hcz64_0 : wr.cell? ⟨gb11001, 0, none⟩ = some (.slice A0_0 l0_0.length c0_0) := (blk_cell BK11001.out 0).trans rfl
                        have hcz64_1 : wr.cell? ⟨gb11001, 1, none⟩ = some (.int .i64 a0_1) := (blk_cell BK11001.out 1).trans rfl
                        have hcz64_2 : wr.cell? ⟨gb11001, 2, none⟩ = some (.string a0_2) := (blk_cell BK11001.out 2).trans rfl
                        have hcz64_3 : wr.cell? ⟨gb11001, 3, none⟩ = some (.slice A0_3 l0_3.length c0_3) := (blk_cell BK11001.out 3).trans rfl
                        have hfz64_0 := blk_frozen BK11001.out 0
                        have hfz64_1 := blk_frozen BK11001.out 1
                        have hfz64_2 := blk_frozen BK11001.out 2
                        have hfz64_3 := blk_frozen BK11001.out 3
                        go_wp2_with (first | ((with_reducible refine gate_callee (f := 37) rfl ?_); refine goesL_ (some 114) rfl rfl Tryd.func37 (by kernel_rfl) rfl #[.slice Ao14 t11003.length co14, .int .i64 a0_1, .string a0_2] rfl (by (try simp only [List.map_toArray, List.map_cons, List.map_nil]); first | done | rfl | (simp only [List.length_drop, List.length_take]; rfl)) ?_; (with_reducible refine (tree_Drop.calls _ _ t11003 a0_1 a0_2 t11024 t11025 _ ?side1 ?side2 A56.out).mono ?_); (case side1 => repeat (first | exact (Kd.R_reads' HO_5.out).2.2 | (with_reducible refine Kd.C_alloc ?_ _) | (with_reducible refine Kd.C_drewN ?_ _) | (with_reducible refine Kd.C_drew ?_))); (case side2 => exact (Kd.R_reads' HO_5.out).2.1); rintro e w65 ⟨v11026, rfl, ho0, hb⟩; refine ⟨_, rfl, ?_⟩; have n0_ := Aside0.mk (Kd.R_elder' (by (with_reducible repeat (first | apply Kd.R_alloc | apply Kd.R_drewN | apply Kd.R_drew)); exact HO_5.out) (Kd.R_base ho0) hb); have n1_ := Aside0.mk (Kd.R_lower (Kd.R_new' ho0 (Kd.R_lt (by (with_reducible repeat (first | apply Kd.R_alloc | apply Kd.R_drewN | apply Kd.R_drew)); exact HO_5.out))) (below_size (by repeat (first | (with_reducible first | exact HB.out | apply below_alloc | apply pw_below_drewN | apply below_drew1 | refine below_set ?_ GE11001.out) | exact HB.out)))); have n2_ := Aside0.mk (blk_below (g := gb11001) (o := .cells #[.slice A0_0 l0_0.length c0_0, .int .i64 a0_1, .string a0_2, .slice A0_3 l0_3.length c0_3] 30 (0, 0)) (by (with_reducible repeat (first | refine blk_drewN ?_ _ | refine blk_drew ?_ | refine blk_alloc ?_ _)); exact BK11001.out) hb); have n3_ := Aside0.mk (below_step (by repeat (first | (with_reducible first | exact HB.out | apply below_alloc | apply pw_below_drewN | apply below_drew1 | refine below_set ?_ GE11001.out) | exact HB.out)) hb); clear HO_5; clear BK11001; clear HB; have HO_5 := n0_; have HO11027 := n1_; have BK11001 := n2_; have HB := n3_; clear n0_ n1_ n2_ n3_; (try clear hb); (try clear hb2); (try clear hk); (try clear hi); (try clear ho0); have hcz66_0 : w65.cell? ⟨gb11001, 0, none⟩ = some (.slice A0_0 l0_0.length c0_0) := (blk_cell BK11001.out 0).trans rfl; have hcz66_1 : w65.cell? ⟨gb11001, 1, none⟩ = some (.int .i64 a0_1) := (blk_cell BK11001.out 1).trans rfl; have hcz66_2 : w65.cell? ⟨gb11001, 2, none⟩ = some (.string a0_2) := (blk_cell BK11001.out 2).trans rfl; have hcz66_3 : w65.cell? ⟨gb11001, 3, none⟩ = some (.slice A0_3 l0_3.length c0_3) := (blk_cell BK11001.out 3).trans rfl; have hfz66_0 := blk_frozen BK11001.out 0; have hfz66_1 := blk_frozen BK11001.out 1; have hfz66_2 := blk_frozen BK11001.out 2; have hfz66_3 := blk_frozen BK11001.out 3; obtain ⟨Ao67, co67, eo67⟩ := Kd.R_slice HO11027.out; subst eo67) | ((with_reducible refine gate_callee (f := 28) rfl ?_); refine goesL_ (some 123) rfl rfl Tryd.func28 (by kernel_rfl) rfl #[.slice Ao67 t11024.length co67, .int .i64 a0_1, .string a0_2] rfl (by (try simp only [List.map_toArray, List.map_cons, List.map_nil]); first | done | rfl | (simp only [List.length_drop, List.length_take]; rfl)) ?_; (with_reducible refine (tree_Get.calls _ _ t11024 a0_1 a0_2 t11028 t11029 _ ?side1 ?side2 A57.out).mono ?_); (case side1 => repeat (first | exact (Kd.R_reads' HO11027.out).2.2 | (with_reducible refine Kd.C_alloc ?_ _) | (with_reducible refine Kd.C_drewN ?_ _) | (with_reducible refine Kd.C_drew ?_))); (case side2 => exact (Kd.R_reads' HO11027.out).2.1); rintro e w68 ⟨v11030, rfl, ho0, hb⟩; refine ⟨_, rfl, ?_⟩; have n0_ := Aside0.mk (Kd.R_elder' (by (with_reducible repeat (first | apply Kd.R_alloc | apply Kd.R_drewN | apply Kd.R_drew)); exact HO_5.out) (Kd.R_base ho0) hb); have n1_ := Aside0.mk (Kd.R_elder' (by (with_reducible repeat (first | apply Kd.R_alloc | apply Kd.R_drewN | apply Kd.R_drew)); exact HO11027.out) (Kd.R_base ho0) hb); have n2_ := Aside0.mk (Kd.R_lower ho0 (below_size (by repeat (first | (with_reducible first | exact HB.out | apply below_alloc | apply pw_below_drewN | apply below_drew1 | refine below_set ?_ GE11001.out) | exact HB.out)))); have n3_ := Aside0.mk (blk_below (g := gb11001) (o := .cells #[.slice A0_0 l0_0.length c0_0, .int .i64 a0_1, .string a0_2, .slice A0_3 l0_3.length c0_3] 30 (0, 0)) (by (with_reducible repeat (first | refine blk_drewN ?_ _ | refine blk_drew ?_ | refine blk_alloc ?_ _)); exact BK11001.out) hb); have n4_ := Aside0.mk (below_step (by repeat (first | (with_reducible first | exact HB.out | apply below_alloc | apply pw_below_drewN | apply below_drew1 | refine below_set ?_ GE11001.out) | exact HB.out)) hb); clear HO_5; clear HO11027; clear BK11001; clear HB; have HO_5 := n0_; have HO11027 := n1_; have HO11031 := n2_; have BK11001 := n3_; have HB := n4_; clear n0_ n1_ n2_ n3_ n4_; (try clear hb); (try clear hb2); (try clear hk); (try clear hi); (try clear ho0)))
                        go_ret
                        exact ⟨by first | rfl | (simp [errW_none, errW_some] <;> rfl) | (simp [*, errW_none, errW_some] <;> rfl), by repeat (first | (with_reducible first | exact HB.out | apply below_alloc | apply pw_below_drewN | apply below_drew1 | refine below_set ?_ GE11001.out) | exact HB.out)⟩
    · rw [if_neg c6] at H
      have c6b0 : (t11004 == 0) = false := beq_eq_false_iff_ne.mpr c6
      have c6b1 : (t11004 != 0) = true := bne_iff_ne.mpr c6
      obtain rfl := Option.some.inj H
      go_enter Tryd.func10, Tryd.ntmps10
      go_wp2_with (first | ((with_reducible refine gate_dst (N := 2) rfl ?_); refine box_event ?hg (N := 2) ?hd (cs := #[.slice A0_0 l0_0.length c0_0, .int .i64 a0_1, .string a0_2, .slice A0_3 l0_3.length c0_3]) (t := 30) ?hr ?_; (case hd => rfl); (case hg => rfl); (case hr => first | (go_simp; done) | (go_simp; rfl)); intro gb11001 hg w69 hbox hb; have n0_ := Aside0.mk (below_step (by repeat (first | (with_reducible first | exact HB.out | apply below_alloc | apply pw_below_drewN | apply below_drew1) | exact HB.out)) hb); have n1_ := Aside0.mk (hbox); have n2_ := Aside0.mk ((by rw [hg]; exact (below_size (by repeat (first | (with_reducible first | exact HB.out | apply below_alloc | apply pw_below_drewN | apply below_drew1) | exact HB.out))) : w.heap.size ≤ gb11001)); have n3_ := Aside0.mk ((by rw [hg]; exact (below_size (by repeat (first | (with_reducible first | exact HB.out | apply below_alloc | apply pw_below_drewN | apply below_drew1) | exact HB.out))) : w.heap.size ≤ gb11001)); clear HB; have HB := n0_; have BK11001 := n1_; have GW11001 := n2_; have GE11001 := n3_; clear n0_ n1_ n2_ n3_; clear hb hbox hg) | ((with_reducible refine gate_callee (f := 11) rfl ?_); refine goesL_ (some 18) rfl rfl Tryd.func11 (by kernel_rfl) rfl #[] rfl (by (try simp only [List.map_toArray, List.map_cons, List.map_nil]); first | done | rfl | (simp only [List.length_drop, List.length_take]; rfl)) ?_; (with_reducible refine (tinderlaw08_alive.calls  true _ (QB.Tabs.below ht (by repeat (first | (with_reducible first | exact HB.out | apply below_alloc | apply pw_below_drewN | apply below_drew1 | refine below_set ?_ (Aside0.out (by assumption))) | exact HB.out))) A3.out).mono ?_); rintro e w70 ⟨rfl, hb⟩; refine ⟨_, rfl, ?_⟩; have n0_ := Aside0.mk (blk_below (g := gb11001) (o := .cells #[.slice A0_0 l0_0.length c0_0, .int .i64 a0_1, .string a0_2, .slice A0_3 l0_3.length c0_3] 30 (0, 0)) (by (with_reducible repeat (first | refine blk_drewN ?_ _ | refine blk_drew ?_ | refine blk_alloc ?_ _)); exact BK11001.out) hb); have n1_ := Aside0.mk (below_step (by repeat (first | (with_reducible first | exact HB.out | apply below_alloc | apply pw_below_drewN | apply below_drew1 | refine below_set ?_ GE11001.out) | exact HB.out)) hb); clear BK11001; clear HB; have BK11001 := n0_; have HB := n1_; clear n0_ n1_; (try clear hb); (try clear hb2); (try clear hk); (try clear hi); have hcz71_0 : w70.cell? ⟨gb11001, 0, none⟩ = some (.slice A0_0 l0_0.length c0_0) := (blk_cell BK11001.out 0).trans rfl; have hcz71_1 : w70.cell? ⟨gb11001, 1, none⟩ = some (.int .i64 a0_1) := (blk_cell BK11001.out 1).trans rfl; have hcz71_2 : w70.cell? ⟨gb11001, 2, none⟩ = some (.string a0_2) := (blk_cell BK11001.out 2).trans rfl; have hcz71_3 : w70.cell? ⟨gb11001, 3, none⟩ = some (.slice A0_3 l0_3.length c0_3) := (blk_cell BK11001.out 3).trans rfl; have hfz71_0 := blk_frozen BK11001.out 0; have hfz71_1 := blk_frozen BK11001.out 1; have hfz71_2 := blk_frozen BK11001.out 2; have hfz71_3 := blk_frozen BK11001.out 3) | ((with_reducible refine gate_callee (f := 35) rfl ?_); refine goesL_ (some 29) rfl rfl Tryd.func35 (by kernel_rfl) rfl #[.slice A0_0 l0_0.length c0_0, .int .i64 a0_1, .string a0_2, .slice A0_3 l0_3.length c0_3] rfl (by (try simp only [List.map_toArray, List.map_cons, List.map_nil]); first | done | rfl | (simp only [List.length_drop, List.length_take]; rfl)) ?_; (with_reducible refine (tree_Set.calls _ _ l0_0 a0_1 a0_2 _ _ l0_3 t11003 t11004 _ ?side1 ?side2 ?side3 ?side4 A5.out).mono ?_); (case side1 => repeat (first | exact (Kd.C_below HR0_0.out HB.out) | (with_reducible refine Kd.C_alloc ?_ _) | (with_reducible refine Kd.C_drewN ?_ _) | (with_reducible refine Kd.C_drew ?_))); (case side2 => exact HC0_0.out); (case side3 => repeat (first | exact (Kd.C_below HR0_3.out HB.out) | (with_reducible refine Kd.C_alloc ?_ _) | (with_reducible refine Kd.C_drewN ?_ _) | (with_reducible refine Kd.C_drew ?_))); (case side4 => exact HC0_3.out); rintro e w72 ⟨v11005, rfl, ho0, hb⟩; refine ⟨_, rfl, ?_⟩; have n0_ := Aside0.mk (Kd.R_lower ho0 (below_size (by repeat (first | (with_reducible first | exact HB.out | apply below_alloc | apply pw_below_drewN | apply below_drew1 | refine below_set ?_ GE11001.out) | exact HB.out)))); have n1_ := Aside0.mk (blk_below (g := gb11001) (o := .cells #[.slice A0_0 l0_0.length c0_0, .int .i64 a0_1, .string a0_2, .slice A0_3 l0_3.length c0_3] 30 (0, 0)) (by (with_reducible repeat (first | refine blk_drewN ?_ _ | refine blk_drew ?_ | refine blk_alloc ?_ _)); exact BK11001.out) hb); have n2_ := Aside0.mk (below_step (by repeat (first | (with_reducible first | exact HB.out | apply below_alloc | apply pw_below_drewN | apply below_drew1 | refine below_set ?_ GE11001.out) | exact HB.out)) hb); clear BK11001; clear HB; have HO11006 := n0_; have BK11001 := n1_; have HB := n2_; clear n0_ n1_ n2_; (try clear hb); (try clear hb2); (try clear hk); (try clear hi); (try clear ho0); obtain ⟨Ao73, co73, eo73⟩ := Kd.R_slice HO11006.out; subst eo73))
      go_ret
      exact ⟨by first | rfl | (simp [errW_none, errW_some] <;> rfl) | (simp [*, errW_none, errW_some] <;> rfl), by repeat (first | (with_reducible first | exact HB.out | apply below_alloc | apply pw_below_drewN | apply below_drew1 | refine below_set ?_ GE11001.out) | exact HB.out)⟩
  · replace c4 := Bool.eq_false_iff.mpr c4
    subst c4
    have H1 : (some false) = some r := by rw [if_neg (show ¬ (false = true) by decide)] at H; exact H
    clear H
    have H := H1
    clear H1
    obtain rfl := Option.some.inj H
    go_enter Tryd.func10, Tryd.ntmps10
    go_wp2_with (first | ((with_reducible refine gate_dst (N := 2) rfl ?_); refine box_event ?hg (N := 2) ?hd (cs := #[.slice A0_0 l0_0.length c0_0, .int .i64 a0_1, .string a0_2, .slice A0_3 l0_3.length c0_3]) (t := 30) ?hr ?_; (case hd => rfl); (case hg => rfl); (case hr => first | (go_simp; done) | (go_simp; rfl)); intro gb11001 hg w74 hbox hb; have n0_ := Aside0.mk (below_step (by repeat (first | (with_reducible first | exact HB.out | apply below_alloc | apply pw_below_drewN | apply below_drew1) | exact HB.out)) hb); have n1_ := Aside0.mk (hbox); have n2_ := Aside0.mk ((by rw [hg]; exact (below_size (by repeat (first | (with_reducible first | exact HB.out | apply below_alloc | apply pw_below_drewN | apply below_drew1) | exact HB.out))) : w.heap.size ≤ gb11001)); have n3_ := Aside0.mk ((by rw [hg]; exact (below_size (by repeat (first | (with_reducible first | exact HB.out | apply below_alloc | apply pw_below_drewN | apply below_drew1) | exact HB.out))) : w.heap.size ≤ gb11001)); clear HB; have HB := n0_; have BK11001 := n1_; have GW11001 := n2_; have GE11001 := n3_; clear n0_ n1_ n2_ n3_; clear hb hbox hg) | ((with_reducible refine gate_callee (f := 11) rfl ?_); refine goesL_ (some 18) rfl rfl Tryd.func11 (by kernel_rfl) rfl #[] rfl (by (try simp only [List.map_toArray, List.map_cons, List.map_nil]); first | done | rfl | (simp only [List.length_drop, List.length_take]; rfl)) ?_; (with_reducible refine (tinderlaw08_alive.calls  false _ (QB.Tabs.below ht (by repeat (first | (with_reducible first | exact HB.out | apply below_alloc | apply pw_below_drewN | apply below_drew1 | refine below_set ?_ (Aside0.out (by assumption))) | exact HB.out))) A3.out).mono ?_); rintro e w75 ⟨rfl, hb⟩; refine ⟨_, rfl, ?_⟩; have n0_ := Aside0.mk (blk_below (g := gb11001) (o := .cells #[.slice A0_0 l0_0.length c0_0, .int .i64 a0_1, .string a0_2, .slice A0_3 l0_3.length c0_3] 30 (0, 0)) (by (with_reducible repeat (first | refine blk_drewN ?_ _ | refine blk_drew ?_ | refine blk_alloc ?_ _)); exact BK11001.out) hb); have n1_ := Aside0.mk (below_step (by repeat (first | (with_reducible first | exact HB.out | apply below_alloc | apply pw_below_drewN | apply below_drew1 | refine below_set ?_ GE11001.out) | exact HB.out)) hb); clear BK11001; clear HB; have BK11001 := n0_; have HB := n1_; clear n0_ n1_; (try clear hb); (try clear hb2); (try clear hk); (try clear hi)))
    go_ret
    exact ⟨by first | rfl | (simp [errW_none, errW_some] <;> rfl) | (simp [*, errW_none, errW_some] <;> rfl), by repeat (first | (with_reducible first | exact HB.out | apply below_alloc | apply pw_below_drewN | apply below_drew1 | refine below_set ?_ GE11001.out) | exact HB.out)⟩

end Go.Proofs.YtnalcjgefbelnaaDoor.Q
end
section
set_option linter.unusedSimpArgs false
set_option linter.unusedVariables false
namespace Go.Proofs.YtnalcjgefbelnaaDoor.Q
open Go.RowKit Go.Proofs.YtnalcjgefbelnaaDoorW.PrintWords Go.Proofs.YtnalcjgefbelnaaDoorW.PrintLast
/-- What stands once a property was put. -/
theorem put_facts {z : List S44} (hG : GoodT z) {n : Int} {s : ByteArray} {d : List Int} (he : tree_check.f z n = some 0) (hs : namedF s = true) (hd : d.length ≤ 256) (h16 : ¬ (plcF z n s < 0 ∧ ((rd_T44 z n).f3.length : Int) = 16)) :
    propsF (putF (rd_T44 z n).f3 (plcF z n s) s d) = true ∧ tree_check.f (withF z n (putF (rd_T44 z n).f3 (plcF z n s) s d)) n = some 0 ∧ GoodT (withF z n (putF (rd_T44 z n).f3 (plcF z n s) s d)) := by
  obtain ⟨h0, h1⟩ := check_in he
  have hF := check_form he
  have hp := put_props (d := d) (node_props hF n h0 h1) hs hd h16
  have hq := (props_iff _).1 hp
  exact ⟨hp, check_ok (form_with hF h0 h1 hp) h0 (by rw [with_len]; exact h1), good_with hG h0 h1 (by have := hq.1; show (putF (rd_T44 z n).f3 (idxP (isP s) (rd_T44 z n).f3) s d).length < _; omega) (fun p hp2 => by have := (hq.2.1 p hp2).2; omega)⟩
theorem set_eq8 {z : List S44} (hG : GoodT z) {n : Int} (s : ByteArray) (d : List Int) (he : tree_check.f z n = some 0) : tree_Set.f z n s d = some (if namedF s = true then (if (256 : Int) < (d.length : Int) then ([], 3) else if plcF z n s < 0 ∧ ((rd_T44 z n).f3.length : Int) = 16 then ([], 22) else (withF z n (putF (rd_T44 z n).f3 (plcF z n s) s d), 0)) else ([], 1)) := by
  obtain ⟨h0, h1⟩ := check_in he
  have h16 := props_len (node_props (check_form he) n h0 h1)
  unfold tree_Set.f
  rw [he, Option.bind_some, if_pos rfl]
  by_cases hs : namedF s = true
  · rw [if_pos hs, if_pos hs]
    by_cases hd : (256 : Int) < (d.length : Int)
    · rw [if_pos hd, if_pos hd]
    · rw [if_neg hd, if_neg hd]
      by_cases hm : plcF z n s < 0 ∧ ((rd_T44 z n).f3.length : Int) = 16
      · rw [if_pos hm, if_pos hm]
      · rw [if_neg hm, if_neg hm, if_pos ⟨short_of hG, h16⟩]
  · rw [if_neg hs, if_neg hs]
theorem keeps_go {z t : List S44} {n : Int} {s : ByteArray} {d : List Int} (hG : GoodT z) (htl : t.length = z.length) (hz : z.length ≤ 32) (hel : ∀ i : Int, 0 ≤ i → i ≠ n → rd_T44 t i = rd_T44 z i) (R : Option Bool) (hR : ((tree_Drop.f t n s).bind fun bt11024 => ((tree_Get.f bt11024.1 n s).bind fun bt11028 => (if bt11024.2 = 0 then (some (bt11028.2 == 2)) else (some false)))) = R) : ∀ (q k : Nat) (i : Int), 0 ≤ i → i + q = t.length → q + 35184372088900 ≤ k → tinderlaw08_TreeKeeps.l0 k t i z n s d = R
  | 0, k, i, h0, h1, hk => by
    obtain ⟨k, rfl⟩ : ∃ m, k = m + 1 := ⟨k - 1, by omega⟩
    rw [tinderlaw08_TreeKeeps.l0, if_neg (by omega)]
    exact hR
  | q + 1, k, i, h0, h1, hk => by
    obtain ⟨k, rfl⟩ : ∃ m, k = m + 1 := ⟨k - 1, by omega⟩
    have hw : wrap64 (i + 1) = i + 1 := by unfold wrap64; omega
    have ih := keeps_go (d := d) hG htl hz hel R hR q k (i + 1) (by omega) (by omega) (by omega)
    rw [tinderlaw08_TreeKeeps.l0, if_pos (by omega), hw, ih]
    by_cases hi : i = n
    · rw [if_pos hi]
    · rw [if_neg hi, if_pos h0, if_pos (by omega), hel i h0 hi, samenode_eq _ 35184372088832 (by decide) (goodN_len (hG.2 _ (rd44_mem z i h0 (by omega)))) k (by omega), Option.bind_some, if_pos rfl]
theorem treeKeeps_f (z : List S44) (hG : GoodT z) (n : Int) (s : ByteArray) (d : List Int) (o : ByteArray) : tinderlaw08_TreeKeeps.f 1000000000000000 z n s d o = some true := by
  obtain ⟨e, he⟩ := check_some z n
  unfold tinderlaw08_TreeKeeps.f
  rw [alive08_f, Option.bind_some, if_pos rfl]
  have bad : ∀ c : Int, c ≠ 0 → tree_Set.f z n s d = some ([], c) → ((tree_Set.f z n s d).bind fun bt11003 => (if bt11003.2 = 0 then ((tree_Get.f bt11003.1 n s).bind fun bt11007 => (if bt11007.2 = 0 then ((tinderref04_Same.f bt11007.1 d).bind fun t11011 => (tinderlaw08_TreeKeeps.j0 1000000000000000 o bt11003.1 (!t11011) z n s d)) else (tinderlaw08_TreeKeeps.j0 1000000000000000 o bt11003.1 true z n s d))) else (some ((bt11003.1.length : Int) == 0)))) = some true := fun c hc hs => by
    rw [hs, Option.bind_some, if_neg hc]
    rfl
  by_cases h0 : e = 0
  · subst h0
    have hse := set_eq8 hG s d he
    by_cases hs : namedF s = true
    · rw [if_pos hs] at hse
      by_cases hd : (256 : Int) < (d.length : Int)
      · rw [if_pos hd] at hse
        exact bad 3 (by decide) hse
      · rw [if_neg hd] at hse
        by_cases h16 : plcF z n s < 0 ∧ ((rd_T44 z n).f3.length : Int) = 16
        · rw [if_pos h16] at hse
          exact bad 22 (by decide) hse
        · rw [if_neg h16] at hse
          obtain ⟨a0, a1⟩ := check_in he
          have hF := check_form he
          have hln := form_len hF
          have hpz := node_props hF n a0 a1
          obtain ⟨f1, f2, f3⟩ := put_facts (d := d) hG he hs (by omega) h16
          have hgt := put_get (s := s) (d := d) hpz
          have hrest := put_rest (s := s) (d := d) hpz
          have hpl : plcF z n s = idxP (isP s) (rd_T44 z n).f3 := rfl
          rw [hpl] at f1 f2 f3 hse
          generalize hl' : putF (rd_T44 z n).f3 (idxP (isP s) (rd_T44 z n).f3) s d = l' at f1 f2 f3 hse hgt hrest
          have hsame := with_same (t := z) (l := l') a0 a1
          have hpt : plcF (withF z n l') n s = idxP (isP s) l' := by unfold plcF; rw [hsame]
          have hgetF : getF (withF z n l') n s = (d, 0) := by
            unfold getF
            rw [hpt, if_neg (by have := hgt.1; omega), hsame]
            dsimp only
            rw [hgt.2]
          have hend : tinderlaw08_TreeKeeps.l0 999999999999998 (withF z n l') 0 z n s d = some true := by
            refine keeps_go hG with_len hln.2 (fun i hi0 hin => with_else i hi0 a0 hin) (some true) ?_ (withF z n l').length 999999999999998 0 (Int.le_refl _) (by omega) (by rw [with_len]; omega)
            have h16' := props_len f1
            have hdr : tree_Drop.f (withF z n l') n s = some (withF (withF z n l') n (l'.eraseIdx (idxP (isP s) l').toNat), 0) := by
              unfold tree_Drop.f
              rw [f2, Option.bind_some, if_pos rfl, hpt, if_neg (by have := hgt.1; omega), hsame]
              dsimp only
              rw [if_pos ⟨short_of f3, h16'⟩]
            have hep := erase_props f1 (idxP (isP s) l').toNat
            have heq := (props_iff _).1 hep
            have a1' : n < (withF z n l').length := by rw [with_len]; exact a1
            have hck : tree_check.f (withF (withF z n l') n (l'.eraseIdx (idxP (isP s) l').toNat)) n = some 0 := check_ok (form_with (check_form f2) a0 a1' hep) a0 (by rw [with_len]; exact a1')
            have hgood : GoodT (withF (withF z n l') n (l'.eraseIdx (idxP (isP s) l').toNat)) := good_with f3 a0 a1' (by have := heq.1; omega) (fun p hp2 => by have := (heq.2.1 p hp2).2; omega)
            have hgone := erase_gone (s := s) f1 (by have := hgt.1; omega)
            have hgF : getF (withF (withF z n l') n (l'.eraseIdx (idxP (isP s) l').toNat)) n s = ([], 2) := by
              unfold getF plcF
              rw [with_same a0 a1', if_pos hgone]
            rw [hdr, Option.bind_some, get_eq hgood s hck, Option.bind_some, hgF, if_pos rfl]
            rfl
          have hj1 : tinderlaw08_TreeKeeps.j1 999999999999999 (withF z n l') z n s d = some true := by
            rw [show (999999999999999 : Nat) = 999999999999998 + 1 from rfl, tinderlaw08_TreeKeeps.j1]
            exact hend
          rw [hse, Option.bind_some, if_pos rfl, get_eq f3 s f2, Option.bind_some, hgetF, if_pos rfl, same4_self, Option.bind_some]
          rw [show (1000000000000000 : Nat) = 999999999999999 + 1 from rfl, tinderlaw08_TreeKeeps.j0, if_neg (by decide)]
          by_cases ho : o.toList = s.toList
          · rw [if_pos ho]
            exact hj1
          · rw [if_neg ho, get_eq hG o he, Option.bind_some, get_eq f3 o f2, Option.bind_some]
            have hr := hrest o ho
            have heqF : getF (withF z n l') n o = getF z n o := by
              unfold getF plcF
              rw [hsame]
              dsimp only
              by_cases hq : idxP (isP o) (rd_T44 z n).f3 < 0
              · rw [if_pos hq, if_pos (hr.1.2 hq)]
              · rw [if_neg hq, if_neg (fun h => hq (hr.1.1 h)), hr.2 hq]
            rw [heqF, if_pos rfl, same4_self, Option.bind_some, if_pos rfl]
            exact hj1
    · rw [if_neg hs] at hse
      exact bad 1 (by decide) hse
  · refine bad e h0 ?_
    unfold tree_Set.f
    rw [he, Option.bind_some, if_neg h0]
theorem treeKeeps_row {w : World} (ht : QB.Tabs w) (cs : Array Value) (z : S30) (hz : k30.K w z cs.toList) (hg : CaseG z) (o : ByteArray) (ho : o.size ≤ 140737488351232) :
    Calls Tryd.prog 10 #[.agg cs, .string o] w fun e w' => e = .returned (.bool true) ∧ Below w.heap.size w w' := by
  obtain ⟨A0, c0, A3, c3, he, l0, g0, l3, g3⟩ := k30_open hz
  have e : cs = #[.slice A0 z.f0.length c0, .int .i64 z.f1, .string z.f2, .slice A3 z.f3.length c3] := Array.toList_inj.1 he
  subst e
  exact tinderlaw08_TreeKeeps.calls 1000000000000000 A0 c0 z.f0 z.f1 z.f2 A3 c3 z.f3 o true w ht g0 l0 g3 l3 (treeKeeps_f z.f0 (good_of hg.1) z.f1 z.f2 z.f3 o)
end Go.Proofs.YtnalcjgefbelnaaDoor.Q
end
section
namespace Go.Proofs.YtnalcjgefbelnaaDoor.Q
open Go.RowKit Go.Proofs.YtnalcjgefbelnaaDoorW.PrintWords Go.Proofs.YtnalcjgefbelnaaDoorW.PrintLast Go.Proofs.YtnalcjgefbelnaaDoorW.PrintMore
def Opens {α : Type} (P : Program) (t : TypeId) (d : Kd α) (G : α → Prop) : Prop :=
  ∀ (H : Type) (enc : TypeId × Value → H) (W : World) (fuel : Nat) (cs : List Value) (x : DataW H × List MemPlace), DataW.trod enc P W 0 (fun _ => true) true fuel t cs = some x → (∀ n ∈ x.1.weights P t, n ≤ reachBytes) → ∃ a, d.K W a cs ∧ G a
section
variable {P : Program} {t e : TypeId}
theorem opens_int {k : IntKind} (ht : P.underlying t = some (.int k)) : Opens P t (Kd.int k) (fun n => (Lit.int k n).wf = true) := by
  intro H enc W fuel cs x h _
  obtain ⟨n, rfl, _, hw⟩ := DataW.trod_int ht h
  exact ⟨n, rfl, hw⟩
theorem opens_string (ht : P.underlying t = some .string) : Opens P t Kd.string (fun s => s.size ≤ 140737488351232) := by
  intro H enc W fuel cs x h hw
  obtain ⟨s, rfl, rfl, _⟩ := DataW.trod_string ht h
  have := hw s.data.toList.length (by simp [DataW.weights])
  exact ⟨s, rfl, by simpa [reachBytes] using this⟩
theorem weights_all {H : Type} {P : Program} {e : TypeId} : ∀ {l : List (DataW H)} {d : DataW H}, d ∈ l → ∀ n ∈ d.weights P e, n ∈ DataW.weightsAll P e l
  | d0 :: l, d, hd, n, hn => by
    simp only [DataW.weightsAll, List.mem_append]
    rcases List.mem_cons.1 hd with rfl | hd
    · exact .inl hn
    · exact .inr (weights_all hd n hn)
theorem cells_get {W : World} {base : Nat} {a : Addr} {n : Nat} {c : List Value} (h : W.cells? base a n = some c) : c.length = n ∧ ∀ i u, c[i]? = some u → W.cell? (a.add i) = some u := by
  unfold World.cells? at h
  split at h
  · have hl := mapM_some_length h
    refine ⟨by simpa using hl, fun i u hu => ?_⟩
    have hi : i < n := by
      have := (List.getElem?_eq_some_iff.1 hu).1
      simp at hl
      omega
    have := mapM_some_get h i i (by simp [hi])
    rw [this, hu]
  · cases h
theorem opens_slice {α : Type} {d : Kd α} {G : α → Prop} (ht : P.underlying t = some (.slice e)) (hc : P.cellsOf e = d.sz) (b : Nat) (hb : P.bytesOf e = b) (he : Opens P e d G) :
    Opens P t (Kd.slice e d) (fun xs => xs.length * b ≤ 140737488351232 ∧ ∀ a ∈ xs, G a) := by
  intro H enc W fuel cs x h hw
  rcases DataW.trod_slice ht h with ⟨rfl, _⟩ | ⟨a, len, cap, elems, rest, n, _, rfl, rfl, _, hl, hm, hlen, hel, _⟩
  · exact ⟨[], ⟨none, 0, rfl, Nat.le_refl _, Kd.C_nil d W⟩, by simp, fun a h => by cases h⟩
  · have hwt : (elems.length + rest.length) * b ≤ 140737488351232 := by
      have := hw ((elems.length + rest.length) * P.bytesOf e) (by simp [DataW.weights, ht])
      rw [hb] at this
      simpa [reachBytes] using this
    have hall : ∀ i : Fin len, ∃ p : α, ∃ c, c.length = d.sz ∧ d.K W p c ∧ G p ∧ ∀ j u, c[j]? = some u → W.cell? (a.add (i.1 * d.sz + j)) = some u := by
      intro i
      have hi : i.1 < elems.length := by have := i.2; omega
      have h1 := hel i.1 i.2
      rw [List.getElem?_eq_getElem hi] at h1
      obtain ⟨c, hcs, htr⟩ := Option.bind_eq_some_iff.1 h1
      obtain ⟨hcl, hcg⟩ := cells_get hcs
      obtain ⟨p, hK, hG⟩ := he H enc W n c _ htr (fun m hm => hw m (by
        simp only [DataW.weights, ht, List.mem_cons, List.mem_append]
        exact .inr (.inl (weights_all (List.mem_map.2 ⟨_, List.getElem_mem hi, rfl⟩) m hm))))
      refine ⟨p, c, by rw [hcl, hc], hK, hG, fun j u hu => ?_⟩
      have := hcg j u hu
      rw [add_add, hc] at this
      exact this
    refine ⟨List.ofFn fun i => Classical.choose (hall i), ⟨some a, cap, by simp, by simpa using hl, by simp, by simp only [maxLen] at hm; simp; omega, fun _ => ⟨a, rfl, fun j p hj => ?_⟩⟩, ?_, ?_⟩
    · obtain ⟨hjl, hjp⟩ := List.getElem?_eq_some_iff.1 hj
      simp only [List.length_ofFn] at hjl
      have h2 := Classical.choose_spec (hall ⟨j, hjl⟩)
      rw [List.getElem_ofFn] at hjp
      rw [hjp] at h2
      obtain ⟨c, h3, h4, _, h6⟩ := h2
      exact ⟨c, h3, h4, h6⟩
    · rw [List.length_ofFn]
      refine Nat.le_trans (Nat.mul_le_mul_right b ?_) hwt
      omega
    · intro p hp
      obtain ⟨i, rfl⟩ := (List.mem_ofFn).1 hp
      obtain ⟨_, _, _, h5, _⟩ := Classical.choose_spec (hall i)
      exact h5
/-- The fields of a struct from one on, one behind the other. -/
def OpensFields {α : Type} (P : Program) (fs : List Field) (off : Nat) (d : Kd α) (G : α → Prop) : Prop :=
  ∀ (H : Type) (enc : TypeId × Value → H) (W : World) (fuel : Nat) (cs : List Value) (xs : List (DataW H × List MemPlace)), off + d.sz = cs.length → xs.length = fs.length →
    (∀ (i : Nat) (f : Field), fs[i]? = some f → DataW.trod enc P W 0 (fun _ => true) true fuel f.type ((cs.drop f.offset).take (P.cellsOf f.type)) = xs[i]?) →
    (∀ n ∈ DataW.weightsEach P (fs.map (·.type)) (xs.map (·.1)), n ≤ reachBytes) → ∃ a, d.K W a (cs.drop off) ∧ G a
theorem opens_one {α : Type} {d : Kd α} {G : α → Prop} {f : Field} {off : Nat} (ho : f.offset = off) (hc : P.cellsOf f.type = d.sz) (he : Opens P f.type d G) : OpensFields P [f] off d G := by
  intro H enc W fuel cs xs hl hx hf hw
  match xs, hx with
  | [x], _ =>
    have h0 := hf 0 f rfl
    rw [ho, hc, List.take_of_length_le (by rw [List.length_drop]; omega)] at h0
    exact he H enc W fuel _ x h0 (fun n hn => hw n (by simpa [DataW.weightsEach] using hn))
theorem opens_more {α β : Type} {d : Kd α} {d2 : Kd β} {G : α → Prop} {G2 : β → Prop} {f : Field} {fs : List Field} {off : Nat} (ho : f.offset = off) (hc : P.cellsOf f.type = d.sz) (he : Opens P f.type d G) (hs : OpensFields P fs (off + d.sz) d2 G2) :
    OpensFields P (f :: fs) off (Kd.pair d d2) (fun p => G p.1 ∧ G2 p.2) := by
  intro H enc W fuel cs xs hl hx hf hw
  have hl' : off + (d.sz + d2.sz) = cs.length := hl
  match xs, hx with
  | x :: xs, hx =>
    have h0 := hf 0 f rfl
    rw [ho, hc] at h0
    obtain ⟨a, h1, h2⟩ := he H enc W fuel _ x h0 (fun n hn => hw n (by simp only [List.map_cons, DataW.weightsEach, List.mem_append]; exact .inl hn))
    obtain ⟨b, h3, h4⟩ := hs H enc W fuel cs xs (by omega) (by simpa using hx) (fun i g hg => by simpa using hf (i + 1) g (by simpa using hg)) (fun n hn => hw n (by simp only [List.map_cons, DataW.weightsEach, List.mem_append]; exact .inr hn))
    refine ⟨(a, b), ⟨_, _, ?_, h1, h3⟩, h2, h4⟩
    rw [← List.drop_drop, List.take_append_drop]
theorem opens_struct {α : Type} {d : Kd α} {G : α → Prop} {fs : Array Field} (ht : P.underlying t = some (.struct fs)) (hc : P.cellsOf t = d.sz) (hf : OpensFields P fs.toList 0 d G) : Opens P t d G := by
  intro H enc W fuel cs x h hw
  obtain ⟨xs, n, _, rfl, hl, hlen, hg⟩ := DataW.trod_struct ht h
  have := hf H enc W n cs xs (by omega) (by simpa using hlen) (fun i f hi => hg i f (by simpa using hi)) (fun m hm => hw m (by simpa [DataW.weights, ht] using hm))
  simpa using this
theorem opens_iso {α β : Type} {d : Kd α} {G : α → Prop} (f : β → α) (g : α → β) (hfg : ∀ a, f (g a) = a) (h : Opens P t d G) : Opens P t (Kd.iso d f) (fun b => G (f b)) := by
  intro H enc W fuel cs x hx hw
  obtain ⟨a, h1, h2⟩ := h H enc W fuel cs x hx hw
  exact ⟨g a, by show d.K W (f (g a)) cs; rw [hfg]; exact h1, by show G (f (g a)); rw [hfg]; exact h2⟩
theorem weights_each {H : Type} {P : Program} {ts : List TypeId} {ds : List (DataW H)} (h : (DataW.weightsEach P ts ds).all (· ≤ reachBytes) = true) {j : Nat} {t : TypeId} {d : DataW H} (ht : ts[j]? = some t) (hd : ds[j]? = some d) : ∀ n ∈ d.weights P t, n ≤ reachBytes := fun n hn => by
  simpa using List.all_eq_true.1 h _ (DataW.weights_mem_each ht hd n hn)
end
end Go.Proofs.YtnalcjgefbelnaaDoor.Q
end
