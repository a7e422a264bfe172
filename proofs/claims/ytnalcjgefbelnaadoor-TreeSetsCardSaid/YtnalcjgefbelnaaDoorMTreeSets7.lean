/- Contracts of Go functions and plain facts, of several texts, one behind the other; no condition. -/
import Derived.Test.YtnalcjgefbelnaaDoorMTreeSets5
import Derived.Test.YtnalcjgefbelnaaDoorMTreeSets6
section
namespace Go.Proofs.YtnalcjgefbelnaaDoor.Q
open Go.RowKit Go.Proofs.YtnalcjgefbelnaaDoorW.PrintWords Go.Proofs.YtnalcjgefbelnaaDoorW.PrintLast Go.Proofs.YtnalcjgefbelnaaDoorW.PrintMore
set_option linter.unusedVariables false
set_option linter.unusedSimpArgs false
attribute [local go_sem] max2_int min2_int max_two min_two max_three min_three max_four min_four
set_option maxHeartbeats 8000000 in
set_option maxRecDepth 100000 in
theorem refCopyT_calls (k : Nat) (A0 : Option Addr) (c0 : Nat) (l0 : List (S44)) (r : List (S44)) (w : World) (hr0 : Kd.C k44 w A0 l0.length l0) (hc0 : l0.length ≤ c0) (h : tinderref08_Copy.f k l0 = some r) :
  Calls Tryd.prog 18 #[.slice A0 l0.length c0] w fun e w' => ∃ v0_ : Value, e = .returned (v0_) ∧ OT w' w.heap.size v0_ r ∧ Below w.heap.size w w' := by
 have hu44 := Tryd.underlying44
 have hu53 := Tryd.underlying53
 have HR0 := Aside0.mk hr0
 have HC0 := Aside0.mk hc0
 clear hr0 hc0
 have HB := Aside0.mk (Below.refl w.heap.size w)
 have H : (tinderref08_Copy.l0 k l0 ([] : List (S44)) 0) = some r := h
 clear h
 have H' := Aside0.mk H
 clear H
 go_enter Tryd.func18, Tryd.ntmps18
 go_wp2
 go_loopg [3, 4] k (fun kq v3 v4 w' => ∃ (x3_1 : List (S44)) (x4_1 : Int), v4 = .int .i64 x4_1 ∧ Aside0 (tinderref08_Copy.l0 kq l0 x3_1 x4_1 = some r) ∧ Aside0 (kq ≤ k) ∧ Aside0 (∃ y3_1, OY y3_1 x3_1 ∧ Kd.R k44o 44 w' w.heap.size (fun _ => True) v3 y3_1) ∧ Aside0 (Below w.heap.size w w'))
 case atStart => exact ⟨(([] : List (S44))), (0), (by first | rfl | (simp; done) | (simp [*]; done)), H', ⟨Nat.le_refl _⟩, ⟨⟨[], OY_nil, Kd.R_nil _ _ _ _ _⟩⟩, ⟨by repeat (first | (with_reducible first | exact HB.out | apply below_alloc | apply pw_below_drewN | apply below_drew1) | exact HB.out)⟩⟩
 case round =>
  clear H'
  try clear c1
  obtain ⟨x3_1, x4_1, rfl, HA, HK1, HO_3, HB⟩ := hrel
  obtain ⟨y3_1, hoy_, ho3_⟩ := HO_3.out
  have HOY := Aside0.mk hoy_
  replace HO_3 := Aside0.mk ho3_
  clear hoy_ ho3_
  cases gk with
  | zero => exact absurd HA.out (by simp [tinderref08_Copy.l0])
  | succ k1 =>
   have H := HA.out
   clear HA
   simp only [tinderref08_Copy.l0] at H
   by_cases c2 : x4_1 < (l0.length : Int)
   ·rw [if_pos c2] at H
    have c2b0 : decide (x4_1 < (l0.length : Int)) = true := decide_eq_true c2
    clear c2
    by_cases c3 : 0 ≤ x4_1
    ·rw [if_pos c3] at H
     have c3b0 : decide (0 ≤ x4_1) = true := decide_eq_true c3
     clear c3
     replace H := Option.bind_eq_some_iff.mp H
     obtain ⟨t004, A40, H⟩ := H
     replace H : ((tinderref03_Copy.f ((rd_T44 l0 x4_1).f4)).bind fun t008 => (tinderref08_Copy.l1 k1 l0 x3_1 x4_1 0 ((rd_T44 l0 x4_1).f0) t004 ((rd_T44 l0 x4_1).f2) ([] : List (S53)) t008)) = some r := H
     have A4 := Aside0.mk A40
     clear A40
     replace H := Option.bind_eq_some_iff.mp H
     obtain ⟨t008, A50, H⟩ := H
     replace H : (tinderref08_Copy.l1 k1 l0 x3_1 x4_1 0 ((rd_T44 l0 x4_1).f0) t004 ((rd_T44 l0 x4_1).f2) ([] : List (S53)) t008) = some r := H
     have A5 := Aside0.mk A50
     clear A50
     have H' := Aside0.mk H
     clear H
     try go_wp2
     have n0_ := Aside0.mk (Kd.R_drew HO_3.out)
     have n1_ := Aside0.mk (below_drew1 HB.out)
     clear HO_3
     clear HB
     have HO_3 := n0_
     have HB := n1_
     clear n0_ n1_
     have p001 : 0 ≤ (x4_1 : Int) := of_decide_eq_true (by first | (with_reducible assumption) | assumption)
     have q001 : x4_1 < (l0.length : Int) := of_decide_eq_true (by first | (with_reducible assumption) | assumption)
     obtain ⟨ad001, A001_1, c001_1, A001_3, c001_3, A001_4, c001_4, e001, hx001_0, hx001_1, hx001_2, hx001_3, hx001_4, hl001_1, hi001_1, hl001_3, hi001_3, hl001_4, hi001_4⟩ := at_T44 HR0.out x4_1 p001 q001
     have hw001_4 := hx001_4
     have hw001_3 := hx001_3
     have hw001_2 := hx001_2
     have hw001_1 := hx001_1
     have hw001_0 := hx001_0
     cases e001
     replace hx001_0 := (HB.out.cell (World.block_lt_of_cell? w _ hx001_0)).trans hx001_0
     replace hx001_1 := (HB.out.cell (World.block_lt_of_cell? w _ hx001_1)).trans hx001_1
     replace hx001_2 := (HB.out.cell (World.block_lt_of_cell? w _ hx001_2)).trans hx001_2
     replace hx001_3 := (HB.out.cell (World.block_lt_of_cell? w _ hx001_3)).trans hx001_3
     replace hx001_4 := (HB.out.cell (World.block_lt_of_cell? w _ hx001_4)).trans hx001_4
     have HR001_1 := Aside0.mk hi001_1
     have HC001_1 := Aside0.mk hl001_1
     clear hi001_1 hl001_1
     have HR001_3 := Aside0.mk hi001_3
     have HC001_3 := Aside0.mk hl001_3
     clear hi001_3 hl001_3
     have HR001_4 := Aside0.mk hi001_4
     have HC001_4 := Aside0.mk hl001_4
     clear hi001_4 hl001_4
     replace p001 := eq_true p001
     replace q001 := eq_true q001
     have p002 : 0 ≤ (x4_1 : Int) := of_decide_eq_true (by first | (with_reducible assumption) | assumption)
     have q002 : x4_1 < (l0.length : Int) := of_decide_eq_true (by first | (with_reducible assumption) | assumption)
     obtain ⟨ad002, A002_1, c002_1, A002_3, c002_3, A002_4, c002_4, e002, hx002_0, hx002_1, hx002_2, hx002_3, hx002_4, hl002_1, hi002_1, hl002_3, hi002_3, hl002_4, hi002_4⟩ := at_T44 HR0.out x4_1 p002 q002
     have hw002_4 := hx002_4
     have hw002_3 := hx002_3
     have hw002_2 := hx002_2
     have hw002_1 := hx002_1
     have hw002_0 := hx002_0
     obtain rfl : ad001 = ad002 := (by injection e002)
     replace hx002_0 := (HB.out.cell (World.block_lt_of_cell? w _ hx002_0)).trans hx002_0
     replace hx002_1 := (HB.out.cell (World.block_lt_of_cell? w _ hx002_1)).trans hx002_1
     replace hx002_2 := (HB.out.cell (World.block_lt_of_cell? w _ hx002_2)).trans hx002_2
     replace hx002_3 := (HB.out.cell (World.block_lt_of_cell? w _ hx002_3)).trans hx002_3
     replace hx002_4 := (HB.out.cell (World.block_lt_of_cell? w _ hx002_4)).trans hx002_4
     have HR002_1 := Aside0.mk hi002_1
     have HC002_1 := Aside0.mk hl002_1
     clear hi002_1 hl002_1
     have HR002_3 := Aside0.mk hi002_3
     have HC002_3 := Aside0.mk hl002_3
     clear hi002_3 hl002_3
     have HR002_4 := Aside0.mk hi002_4
     have HC002_4 := Aside0.mk hl002_4
     clear hi002_4 hl002_4
     replace p002 := eq_true p002
     replace q002 := eq_true q002
     have ea_ := Option.some.inj (hx001_1.symm.trans hx002_1)
     injection ea_ with ea_ en_ ec_
     subst ea_
     subst ec_
     clear en_
     have ea_ := Option.some.inj (hx001_3.symm.trans hx002_3)
     injection ea_ with ea_ en_ ec_
     subst ea_
     subst ec_
     clear en_
     have ea_ := Option.some.inj (hx001_4.symm.trans hx002_4)
     injection ea_ with ea_ en_ ec_
     subst ea_
     subst ec_
     clear en_
     have p003 : 0 ≤ (x4_1 : Int) := of_decide_eq_true (by first | (with_reducible assumption) | assumption)
     have q003 : x4_1 < (l0.length : Int) := of_decide_eq_true (by first | (with_reducible assumption) | assumption)
     obtain ⟨ad003, A003_1, c003_1, A003_3, c003_3, A003_4, c003_4, e003, hx003_0, hx003_1, hx003_2, hx003_3, hx003_4, hl003_1, hi003_1, hl003_3, hi003_3, hl003_4, hi003_4⟩ := at_T44 HR0.out x4_1 p003 q003
     have hw003_4 := hx003_4
     have hw003_3 := hx003_3
     have hw003_2 := hx003_2
     have hw003_1 := hx003_1
     have hw003_0 := hx003_0
     obtain rfl : ad001 = ad003 := (by injection e003)
     replace hx003_0 := (HB.out.cell (World.block_lt_of_cell? w _ hx003_0)).trans hx003_0
     replace hx003_1 := (HB.out.cell (World.block_lt_of_cell? w _ hx003_1)).trans hx003_1
     replace hx003_2 := (HB.out.cell (World.block_lt_of_cell? w _ hx003_2)).trans hx003_2
     replace hx003_3 := (HB.out.cell (World.block_lt_of_cell? w _ hx003_3)).trans hx003_3
     replace hx003_4 := (HB.out.cell (World.block_lt_of_cell? w _ hx003_4)).trans hx003_4
     have HR003_1 := Aside0.mk hi003_1
     have HC003_1 := Aside0.mk hl003_1
     clear hi003_1 hl003_1
     have HR003_3 := Aside0.mk hi003_3
     have HC003_3 := Aside0.mk hl003_3
     clear hi003_3 hl003_3
     have HR003_4 := Aside0.mk hi003_4
     have HC003_4 := Aside0.mk hl003_4
     clear hi003_4 hl003_4
     replace p003 := eq_true p003
     replace q003 := eq_true q003
     have ea_ := Option.some.inj (hx001_1.symm.trans hx003_1)
     injection ea_ with ea_ en_ ec_
     subst ea_
     subst ec_
     clear en_
     have ea_ := Option.some.inj (hx001_3.symm.trans hx003_3)
     injection ea_ with ea_ en_ ec_
     subst ea_
     subst ec_
     clear en_
     have ea_ := Option.some.inj (hx001_4.symm.trans hx003_4)
     injection ea_ with ea_ en_ ec_
     subst ea_
     subst ec_
     clear en_
     have p007 : 0 ≤ (x4_1 : Int) := of_decide_eq_true (by first | (with_reducible assumption) | assumption)
     have q007 : x4_1 < (l0.length : Int) := of_decide_eq_true (by first | (with_reducible assumption) | assumption)
     obtain ⟨ad007, A007_1, c007_1, A007_3, c007_3, A007_4, c007_4, e007, hx007_0, hx007_1, hx007_2, hx007_3, hx007_4, hl007_1, hi007_1, hl007_3, hi007_3, hl007_4, hi007_4⟩ := at_T44 HR0.out x4_1 p007 q007
     have hw007_4 := hx007_4
     have hw007_3 := hx007_3
     have hw007_2 := hx007_2
     have hw007_1 := hx007_1
     have hw007_0 := hx007_0
     obtain rfl : ad001 = ad007 := (by injection e007)
     replace hx007_0 := (HB.out.cell (World.block_lt_of_cell? w _ hx007_0)).trans hx007_0
     replace hx007_1 := (HB.out.cell (World.block_lt_of_cell? w _ hx007_1)).trans hx007_1
     replace hx007_2 := (HB.out.cell (World.block_lt_of_cell? w _ hx007_2)).trans hx007_2
     replace hx007_3 := (HB.out.cell (World.block_lt_of_cell? w _ hx007_3)).trans hx007_3
     replace hx007_4 := (HB.out.cell (World.block_lt_of_cell? w _ hx007_4)).trans hx007_4
     have HR007_1 := Aside0.mk hi007_1
     have HC007_1 := Aside0.mk hl007_1
     clear hi007_1 hl007_1
     have HR007_3 := Aside0.mk hi007_3
     have HC007_3 := Aside0.mk hl007_3
     clear hi007_3 hl007_3
     have HR007_4 := Aside0.mk hi007_4
     have HC007_4 := Aside0.mk hl007_4
     clear hi007_4 hl007_4
     replace p007 := eq_true p007
     replace q007 := eq_true q007
     have ea_ := Option.some.inj (hx001_1.symm.trans hx007_1)
     injection ea_ with ea_ en_ ec_
     subst ea_
     subst ec_
     clear en_
     have ea_ := Option.some.inj (hx001_3.symm.trans hx007_3)
     injection ea_ with ea_ en_ ec_
     subst ea_
     subst ec_
     clear en_
     have ea_ := Option.some.inj (hx001_4.symm.trans hx007_4)
     injection ea_ with ea_ en_ ec_
     subst ea_
     subst ec_
     clear en_
     refine start_ (n := 25) (S := fun w' => w'.cell? (ad001.add ((x4_1).toNat * 5)) = some (.string ((rd_T44 l0 x4_1).f0)) ∧ w'.cell? ⟨(ad001.add ((x4_1).toNat * 5)).block, (ad001.add ((x4_1).toNat * 5)).off + 1, none⟩ = some (.slice A001_1 ((rd_T44 l0 x4_1).f1).length c001_1) ∧ w'.cell? ⟨(ad001.add ((x4_1).toNat * 5)).block, (ad001.add ((x4_1).toNat * 5)).off + 2, none⟩ = some (.int .i64 ((rd_T44 l0 x4_1).f2)) ∧ w'.cell? ⟨(ad001.add ((x4_1).toNat * 5)).block, (ad001.add ((x4_1).toNat * 5)).off + 3, none⟩ = some (.slice A001_3 ((rd_T44 l0 x4_1).f3).length c001_3) ∧ w'.cell? ⟨(ad001.add ((x4_1).toNat * 5)).block, (ad001.add ((x4_1).toNat * 5)).off + 4, none⟩ = some (.slice A001_4 ((rd_T44 l0 x4_1).f4).length c001_4) ∧ w'.cell? (ad001.add ((x4_1).toNat * 5)) = some (.string ((rd_T44 l0 x4_1).f0)) ∧ w'.cell? ⟨(ad001.add ((x4_1).toNat * 5)).block, (ad001.add ((x4_1).toNat * 5)).off + 1, none⟩ = some (.slice A001_1 ((rd_T44 l0 x4_1).f1).length c001_1) ∧ w'.cell? ⟨(ad001.add ((x4_1).toNat * 5)).block, (ad001.add ((x4_1).toNat * 5)).off + 2, none⟩ = some (.int .i64 ((rd_T44 l0 x4_1).f2)) ∧ w'.cell? ⟨(ad001.add ((x4_1).toNat * 5)).block, (ad001.add ((x4_1).toNat * 5)).off + 3, none⟩ = some (.slice A001_3 ((rd_T44 l0 x4_1).f3).length c001_3) ∧ w'.cell? ⟨(ad001.add ((x4_1).toNat * 5)).block, (ad001.add ((x4_1).toNat * 5)).off + 4, none⟩ = some (.slice A001_4 ((rd_T44 l0 x4_1).f4).length c001_4) ∧ w'.cell? (ad001.add ((x4_1).toNat * 5)) = some (.string ((rd_T44 l0 x4_1).f0)) ∧ w'.cell? ⟨(ad001.add ((x4_1).toNat * 5)).block, (ad001.add ((x4_1).toNat * 5)).off + 1, none⟩ = some (.slice A001_1 ((rd_T44 l0 x4_1).f1).length c001_1) ∧ w'.cell? ⟨(ad001.add ((x4_1).toNat * 5)).block, (ad001.add ((x4_1).toNat * 5)).off + 2, none⟩ = some (.int .i64 ((rd_T44 l0 x4_1).f2)) ∧ w'.cell? ⟨(ad001.add ((x4_1).toNat * 5)).block, (ad001.add ((x4_1).toNat * 5)).off + 3, none⟩ = some (.slice A001_3 ((rd_T44 l0 x4_1).f3).length c001_3) ∧ w'.cell? ⟨(ad001.add ((x4_1).toNat * 5)).block, (ad001.add ((x4_1).toNat * 5)).off + 4, none⟩ = some (.slice A001_4 ((rd_T44 l0 x4_1).f4).length c001_4) ∧ w'.cell? (ad001.add ((x4_1).toNat * 5)) = some (.string ((rd_T44 l0 x4_1).f0)) ∧ w'.cell? ⟨(ad001.add ((x4_1).toNat * 5)).block, (ad001.add ((x4_1).toNat * 5)).off + 1, none⟩ = some (.slice A001_1 ((rd_T44 l0 x4_1).f1).length c001_1) ∧ w'.cell? ⟨(ad001.add ((x4_1).toNat * 5)).block, (ad001.add ((x4_1).toNat * 5)).off + 2, none⟩ = some (.int .i64 ((rd_T44 l0 x4_1).f2)) ∧ w'.cell? ⟨(ad001.add ((x4_1).toNat * 5)).block, (ad001.add ((x4_1).toNat * 5)).off + 3, none⟩ = some (.slice A001_3 ((rd_T44 l0 x4_1).f3).length c001_3) ∧ w'.cell? ⟨(ad001.add ((x4_1).toNat * 5)).block, (ad001.add ((x4_1).toNat * 5)).off + 4, none⟩ = some (.slice A001_4 ((rd_T44 l0 x4_1).f4).length c001_4)) (ds := []) #[false, false, false, false, false, false, false, false, false, false, false, false, false, false, false, false, false, false, false, false, false, false, false, false, false] (by kernel_rfl) rfl rfl ⟨((HB.out.cell (World.block_lt_of_cell? w _ hw001_0)).trans hw001_0), ((HB.out.cell (World.block_lt_of_cell? w _ hw001_1)).trans hw001_1), ((HB.out.cell (World.block_lt_of_cell? w _ hw001_2)).trans hw001_2), ((HB.out.cell (World.block_lt_of_cell? w _ hw001_3)).trans hw001_3), ((HB.out.cell (World.block_lt_of_cell? w _ hw001_4)).trans hw001_4), ((HB.out.cell (World.block_lt_of_cell? w _ hw002_0)).trans hw002_0), ((HB.out.cell (World.block_lt_of_cell? w _ hw002_1)).trans hw002_1), ((HB.out.cell (World.block_lt_of_cell? w _ hw002_2)).trans hw002_2), ((HB.out.cell (World.block_lt_of_cell? w _ hw002_3)).trans hw002_3), ((HB.out.cell (World.block_lt_of_cell? w _ hw002_4)).trans hw002_4), ((HB.out.cell (World.block_lt_of_cell? w _ hw003_0)).trans hw003_0), ((HB.out.cell (World.block_lt_of_cell? w _ hw003_1)).trans hw003_1), ((HB.out.cell (World.block_lt_of_cell? w _ hw003_2)).trans hw003_2), ((HB.out.cell (World.block_lt_of_cell? w _ hw003_3)).trans hw003_3), ((HB.out.cell (World.block_lt_of_cell? w _ hw003_4)).trans hw003_4), ((HB.out.cell (World.block_lt_of_cell? w _ hw007_0)).trans hw007_0), ((HB.out.cell (World.block_lt_of_cell? w _ hw007_1)).trans hw007_1), ((HB.out.cell (World.block_lt_of_cell? w _ hw007_2)).trans hw007_2), ((HB.out.cell (World.block_lt_of_cell? w _ hw007_3)).trans hw007_3), ((HB.out.cell (World.block_lt_of_cell? w _ hw007_4)).trans hw007_4)⟩ (fun hHeld => ?_); refine with_tabW tinderref08_Copy.tab5 tinderref08_Copy.bits5 (fun HT_ HW_ => ?_)
     generalize wr.drew = w6 at HO_3 HB HR001_1 HR001_3 HR001_4 HR002_1 HR002_3 HR002_4 HR003_1 HR003_3 HR003_4 HR007_1 HR007_3 HR007_4 hx001_0 hx001_1 hx001_2 hx001_3 hx001_4 hx002_0 hx002_1 hx002_2 hx002_3 hx002_4 hx003_0 hx003_1 hx003_2 hx003_3 hx003_4 hx007_0 hx007_1 hx007_2 hx007_3 hx007_4 hHeld ⊢
     refine pure_ (i := 0) (N := some 13) (v := ?_) (a' := ?_) #[true, false, false, false, false, false, false, false, false, false, false, false, false, false, false, false, false, false, false, false, false, false, false, false, false] rfl rfl (any_of HT_.out (by kernel_rfl)) (fun _ _ _ h => h) (Or.inl ⟨by rfl, ?_⟩) ?_ ?_
     rotate_left
     ·intro w'
      go_simp
      with_reducible rfl
     rotate_left
     ·simp only [Act.put, List.setIfInBounds_toArray, List.set_cons_zero, List.set_cons_succ, i64_w, i32_w]
      rfl
     refine pure_ (i := 1) (N := some 14) (v := ?_) (a' := ?_) #[true, true, false, false, false, false, false, false, false, false, false, false, false, false, false, false, false, false, false, false, false, false, false, false, false] rfl rfl (any_of HT_.out (by kernel_rfl)) (fun _ _ _ h => h) (Or.inl ⟨by rfl, ?_⟩) ?_ ?_
     rotate_left
     ·intro w'
      go_simp
      with_reducible rfl
     rotate_left
     ·simp only [Act.put, List.setIfInBounds_toArray, List.set_cons_zero, List.set_cons_succ, i64_w, i32_w]
      rfl
     refine pure_ (i := 2) (N := some 15) (v := ?_) (a' := ?_) #[true, true, true, false, false, false, false, false, false, false, false, false, false, false, false, false, false, false, false, false, false, false, false, false, false] rfl rfl (any_of HT_.out (by kernel_rfl)) (fun _ _ _ h => h) (Or.inl ⟨by rfl, ?_⟩) ?_ ?_
     rotate_left
     ·intro w'
      go_simp
      with_reducible rfl
     rotate_left
     ·simp only [Act.put, List.setIfInBounds_toArray, List.set_cons_zero, List.set_cons_succ, i64_w, i32_w]
      rfl
     refine pure_ (i := 3) (N := some 16) (v := ?_) (a' := ?_) #[true, true, true, true, false, false, false, false, false, false, false, false, false, false, false, false, false, false, false, false, false, false, false, false, false] rfl rfl (any_of HT_.out (by kernel_rfl)) (fun _ _ _ h => h) (Or.inl ⟨by rfl, ?_⟩) ?_ ?_
     rotate_left
     ·intro w'
      go_simp
      with_reducible rfl
     rotate_left
     ·simp only [Act.put, List.setIfInBounds_toArray, List.set_cons_zero, List.set_cons_succ, i64_w, i32_w]
      rfl
     refine pure_ (i := 5) (N := some 18) (v := ?_) (a' := ?_) #[true, true, true, true, false, true, false, false, false, false, false, false, false, false, false, false, false, false, false, false, false, false, false, false, false] rfl rfl (any_of HT_.out (by kernel_rfl)) (fun _ _ _ h => h) (Or.inl ⟨by rfl, ?_⟩) ?_ ?_
     rotate_left
     ·intro w'
      go_simp
      with_reducible rfl
     rotate_left
     ·simp only [Act.put, List.setIfInBounds_toArray, List.set_cons_zero, List.set_cons_succ, i64_w, i32_w]
      rfl
     refine pure_ (i := 6) (N := some 19) (v := ?_) (a' := ?_) #[true, true, true, true, false, true, true, false, false, false, false, false, false, false, false, false, false, false, false, false, false, false, false, false, false] rfl rfl (any_of HT_.out (by kernel_rfl)) (fun _ _ _ h => h) (Or.inl ⟨by rfl, ?_⟩) ?_ ?_
     rotate_left
     ·intro w'
      go_simp
      with_reducible rfl
     rotate_left
     ·simp only [Act.put, List.setIfInBounds_toArray, List.set_cons_zero, List.set_cons_succ, i64_w, i32_w]
      rfl
     refine pure_ (i := 7) (N := some 20) (v := ?_) (a' := ?_) #[true, true, true, true, false, true, true, true, false, false, false, false, false, false, false, false, false, false, false, false, false, false, false, false, false] rfl rfl (any_of HT_.out (by kernel_rfl)) (fun _ _ _ h => h) (Or.inl ⟨by rfl, ?_⟩) ?_ ?_
     rotate_left
     ·intro w'
      go_simp
      with_reducible rfl
     rotate_left
     ·simp only [Act.put, List.setIfInBounds_toArray, List.set_cons_zero, List.set_cons_succ, i64_w, i32_w]
      rfl
     refine pure_ (i := 8) (N := some 21) (v := ?_) (a' := ?_) #[true, true, true, true, false, true, true, true, true, false, false, false, false, false, false, false, false, false, false, false, false, false, false, false, false] rfl rfl (any_of HT_.out (by kernel_rfl)) (fun _ _ _ h => h) (Or.inl ⟨by rfl, ?_⟩) ?_ ?_
     rotate_left
     ·intro w'
      go_simp
      with_reducible rfl
     rotate_left
     ·simp only [Act.put, List.setIfInBounds_toArray, List.set_cons_zero, List.set_cons_succ, i64_w, i32_w]
      rfl
     refine pure_ (i := 10) (N := some 23) (v := ?_) (a' := ?_) #[true, true, true, true, false, true, true, true, true, false, true, false, false, false, false, false, false, false, false, false, false, false, false, false, false] rfl rfl (any_of HT_.out (by kernel_rfl)) (fun _ _ _ h => h) (Or.inl ⟨by rfl, ?_⟩) ?_ ?_
     rotate_left
     ·intro w'
      go_simp
      with_reducible rfl
     rotate_left
     ·simp only [Act.put, List.setIfInBounds_toArray, List.set_cons_zero, List.set_cons_succ, i64_w, i32_w]
      rfl
     refine pure_ (i := 11) (N := some 24) (v := ?_) (a' := ?_) #[true, true, true, true, false, true, true, true, true, false, true, true, false, false, false, false, false, false, false, false, false, false, false, false, false] rfl rfl (any_of HT_.out (by kernel_rfl)) (fun _ _ _ h => h) (Or.inl ⟨by rfl, ?_⟩) ?_ ?_
     rotate_left
     ·intro w'
      go_simp
      with_reducible rfl
     rotate_left
     ·simp only [Act.put, List.setIfInBounds_toArray, List.set_cons_zero, List.set_cons_succ, i64_w, i32_w]
      rfl
     refine pure_ (i := 12) (N := some 25) (v := ?_) (a' := ?_) #[true, true, true, true, false, true, true, true, true, false, true, true, true, false, false, false, false, false, false, false, false, false, false, false, false] rfl rfl (any_of HT_.out (by kernel_rfl)) (fun _ _ _ h => h) (Or.inl ⟨by rfl, ?_⟩) ?_ ?_
     rotate_left
     ·intro w'
      go_simp
      with_reducible rfl
     rotate_left
     ·simp only [Act.put, List.setIfInBounds_toArray, List.set_cons_zero, List.set_cons_succ, i64_w, i32_w]
      rfl
     refine pure_ (i := 13) (N := some 26) (v := ?_) (a' := ?_) #[true, true, true, true, false, true, true, true, true, false, true, true, true, true, false, false, false, false, false, false, false, false, false, false, false] rfl rfl (any_of HT_.out (by kernel_rfl)) (fun _ _ _ h => h) (Or.inl ⟨by rfl, ?_⟩) ?_ ?_
     rotate_left
     ·intro w'
      go_simp
      with_reducible rfl
     rotate_left
     ·simp only [Act.put, List.setIfInBounds_toArray, List.set_cons_zero, List.set_cons_succ, i64_w, i32_w]
      rfl
     refine pure_ (i := 16) (N := some 29) (v := ?_) (a' := ?_) #[true, true, true, true, false, true, true, true, true, false, true, true, true, true, false, false, true, false, false, false, false, false, false, false, false] rfl rfl (any_of HT_.out (by kernel_rfl)) (fun _ _ _ h => h) (Or.inl ⟨by rfl, ?_⟩) ?_ ?_
     rotate_left
     ·intro w'
      go_simp
      with_reducible rfl
     rotate_left
     ·simp only [Act.put, List.setIfInBounds_toArray, List.set_cons_zero, List.set_cons_succ, i64_w, i32_w]
      rfl
     refine pure_ (i := 17) (N := some 30) (v := ?_) (a' := ?_) #[true, true, true, true, false, true, true, true, true, false, true, true, true, true, false, false, true, true, false, false, false, false, false, false, false] rfl rfl (any_of HT_.out (by kernel_rfl)) (fun _ _ _ h => h) (Or.inl ⟨by rfl, ?_⟩) ?_ ?_
     rotate_left
     ·intro w'
      go_simp
      with_reducible rfl
     rotate_left
     ·simp only [Act.put, List.setIfInBounds_toArray, List.set_cons_zero, List.set_cons_succ, i64_w, i32_w]
      rfl
     refine pure_ (i := 18) (N := some 31) (v := ?_) (a' := ?_) #[true, true, true, true, false, true, true, true, true, false, true, true, true, true, false, false, true, true, true, false, false, false, false, false, false] rfl rfl (any_of HT_.out (by kernel_rfl)) (fun _ _ _ h => h) (Or.inl ⟨by rfl, ?_⟩) ?_ ?_
     rotate_left
     ·intro w'
      go_simp
      with_reducible rfl
     rotate_left
     ·simp only [Act.put, List.setIfInBounds_toArray, List.set_cons_zero, List.set_cons_succ, i64_w, i32_w]
      rfl
     refine pure_ (i := 19) (N := some 32) (v := ?_) (a' := ?_) #[true, true, true, true, false, true, true, true, true, false, true, true, true, true, false, false, true, true, true, true, false, false, false, false, false] rfl rfl (any_of HT_.out (by kernel_rfl)) (fun _ _ _ h => h) (Or.inl ⟨by rfl, ?_⟩) ?_ ?_
     rotate_left
     ·intro w'
      go_simp
      with_reducible rfl
     rotate_left
     ·simp only [Act.put, List.setIfInBounds_toArray, List.set_cons_zero, List.set_cons_succ, i64_w, i32_w]
      rfl
     refine take_ (i := 4) (N := some 17) (v := ?_) (a' := ?_) #[true, true, true, true, true, true, true, true, true, false, true, true, true, true, false, false, true, true, true, true, false, false, false, false, false] rfl rfl (take_ofW HT_.out HW_.out (by kernel_rfl)) (fun _ _ _ h => h) (Or.inl ⟨by rfl, ?_⟩) hHeld ?_ ?_
     rotate_left
     ·rintro w' ⟨s0, s1, s2, s3, s4, s5, s6, s7, s8, s9, s10, s11, s12, s13, s14, s15, s16, s17, s18, s19⟩
      go_simp
      with_reducible rfl
     rotate_left
     ·simp only [Act.put, List.setIfInBounds_toArray, List.set_cons_zero, List.set_cons_succ, i64_w, i32_w]
      rfl
     refine take_ (i := 9) (N := some 22) (v := ?_) (a' := ?_) #[true, true, true, true, true, true, true, true, true, true, true, true, true, true, false, false, true, true, true, true, false, false, false, false, false] rfl rfl (take_ofW HT_.out HW_.out (by kernel_rfl)) (fun _ _ _ h => h) (Or.inl ⟨by rfl, ?_⟩) hHeld ?_ ?_
     rotate_left
     ·rintro w' ⟨s0, s1, s2, s3, s4, s5, s6, s7, s8, s9, s10, s11, s12, s13, s14, s15, s16, s17, s18, s19⟩
      go_simp
      with_reducible rfl
     rotate_left
     ·simp only [Act.put, List.setIfInBounds_toArray, List.set_cons_zero, List.set_cons_succ, i64_w, i32_w]
      rfl
     refine take_ (i := 14) (N := some 27) (v := ?_) (a' := ?_) #[true, true, true, true, true, true, true, true, true, true, true, true, true, true, true, false, true, true, true, true, false, false, false, false, false] rfl rfl (take_ofW HT_.out HW_.out (by kernel_rfl)) (fun _ _ _ h => h) (Or.inl ⟨by rfl, ?_⟩) hHeld ?_ ?_
     rotate_left
     ·rintro w' ⟨s0, s1, s2, s3, s4, s5, s6, s7, s8, s9, s10, s11, s12, s13, s14, s15, s16, s17, s18, s19⟩
      go_simp
      with_reducible rfl
     rotate_left
     ·simp only [Act.put, List.setIfInBounds_toArray, List.set_cons_zero, List.set_cons_succ, i64_w, i32_w]
      rfl
     refine take_ (i := 20) (N := some 33) (v := ?_) (a' := ?_) #[true, true, true, true, true, true, true, true, true, true, true, true, true, true, true, false, true, true, true, true, true, false, false, false, false] rfl rfl (take_ofW HT_.out HW_.out (by kernel_rfl)) (fun _ _ _ h => h) (Or.inl ⟨by rfl, ?_⟩) hHeld ?_ ?_
     rotate_left
     ·rintro w' ⟨s0, s1, s2, s3, s4, s5, s6, s7, s8, s9, s10, s11, s12, s13, s14, s15, s16, s17, s18, s19⟩
      go_simp
      with_reducible rfl
     rotate_left
     ·simp only [Act.put, List.setIfInBounds_toArray, List.set_cons_zero, List.set_cons_succ, i64_w, i32_w]
      rfl
     refine join_ (σ := Value × Value × Nat) 1 #[true, true, true, true, true, true, true, true, true, true, true, true, true, true, true, true, true, true, true, true, true, true, true, true, false] (fun s_ => [(28, s_.1), (34, s_.2.1), (5, .pointer (some ⟨s_.2.2, 0, none⟩)), (35, .agg #[.string ((rd_T44 l0 x4_1).f0), s_.1, .int .i64 ((rd_T44 l0 x4_1).f2), .slice none 0 0, s_.2.1])]) (fun s_ w' => (w'.cell? (ad001.add ((x4_1).toNat * 5)) = some (.string ((rd_T44 l0 x4_1).f0)) ∧ w'.cell? ⟨(ad001.add ((x4_1).toNat * 5)).block, (ad001.add ((x4_1).toNat * 5)).off + 1, none⟩ = some (.slice A001_1 ((rd_T44 l0 x4_1).f1).length c001_1) ∧ w'.cell? ⟨(ad001.add ((x4_1).toNat * 5)).block, (ad001.add ((x4_1).toNat * 5)).off + 2, none⟩ = some (.int .i64 ((rd_T44 l0 x4_1).f2)) ∧ w'.cell? ⟨(ad001.add ((x4_1).toNat * 5)).block, (ad001.add ((x4_1).toNat * 5)).off + 3, none⟩ = some (.slice A001_3 ((rd_T44 l0 x4_1).f3).length c001_3) ∧ w'.cell? ⟨(ad001.add ((x4_1).toNat * 5)).block, (ad001.add ((x4_1).toNat * 5)).off + 4, none⟩ = some (.slice A001_4 ((rd_T44 l0 x4_1).f4).length c001_4) ∧ w'.cell? (ad001.add ((x4_1).toNat * 5)) = some (.string ((rd_T44 l0 x4_1).f0)) ∧ w'.cell? ⟨(ad001.add ((x4_1).toNat * 5)).block, (ad001.add ((x4_1).toNat * 5)).off + 1, none⟩ = some (.slice A001_1 ((rd_T44 l0 x4_1).f1).length c001_1) ∧ w'.cell? ⟨(ad001.add ((x4_1).toNat * 5)).block, (ad001.add ((x4_1).toNat * 5)).off + 2, none⟩ = some (.int .i64 ((rd_T44 l0 x4_1).f2)) ∧ w'.cell? ⟨(ad001.add ((x4_1).toNat * 5)).block, (ad001.add ((x4_1).toNat * 5)).off + 3, none⟩ = some (.slice A001_3 ((rd_T44 l0 x4_1).f3).length c001_3) ∧ w'.cell? ⟨(ad001.add ((x4_1).toNat * 5)).block, (ad001.add ((x4_1).toNat * 5)).off + 4, none⟩ = some (.slice A001_4 ((rd_T44 l0 x4_1).f4).length c001_4) ∧ w'.cell? (ad001.add ((x4_1).toNat * 5)) = some (.string ((rd_T44 l0 x4_1).f0)) ∧ w'.cell? ⟨(ad001.add ((x4_1).toNat * 5)).block, (ad001.add ((x4_1).toNat * 5)).off + 1, none⟩ = some (.slice A001_1 ((rd_T44 l0 x4_1).f1).length c001_1) ∧ w'.cell? ⟨(ad001.add ((x4_1).toNat * 5)).block, (ad001.add ((x4_1).toNat * 5)).off + 2, none⟩ = some (.int .i64 ((rd_T44 l0 x4_1).f2)) ∧ w'.cell? ⟨(ad001.add ((x4_1).toNat * 5)).block, (ad001.add ((x4_1).toNat * 5)).off + 3, none⟩ = some (.slice A001_3 ((rd_T44 l0 x4_1).f3).length c001_3) ∧ w'.cell? ⟨(ad001.add ((x4_1).toNat * 5)).block, (ad001.add ((x4_1).toNat * 5)).off + 4, none⟩ = some (.slice A001_4 ((rd_T44 l0 x4_1).f4).length c001_4) ∧ w'.cell? (ad001.add ((x4_1).toNat * 5)) = some (.string ((rd_T44 l0 x4_1).f0)) ∧ w'.cell? ⟨(ad001.add ((x4_1).toNat * 5)).block, (ad001.add ((x4_1).toNat * 5)).off + 1, none⟩ = some (.slice A001_1 ((rd_T44 l0 x4_1).f1).length c001_1) ∧ w'.cell? ⟨(ad001.add ((x4_1).toNat * 5)).block, (ad001.add ((x4_1).toNat * 5)).off + 2, none⟩ = some (.int .i64 ((rd_T44 l0 x4_1).f2)) ∧ w'.cell? ⟨(ad001.add ((x4_1).toNat * 5)).block, (ad001.add ((x4_1).toNat * 5)).off + 3, none⟩ = some (.slice A001_3 ((rd_T44 l0 x4_1).f3).length c001_3) ∧ w'.cell? ⟨(ad001.add ((x4_1).toNat * 5)).block, (ad001.add ((x4_1).toNat * 5)).off + 4, none⟩ = some (.slice A001_4 ((rd_T44 l0 x4_1).f4).length c001_4)) ∧ (Kd.R (Kd.int .u32) 66 w' w.heap.size (fun k_ => some k_ ≠ (s_.2.1 : Value).ownBlock) s_.1 t004) ∧ (Kd.R (Kd.int .u32) 66 w' w.heap.size (fun k_ => some k_ ≠ (s_.1 : Value).ownBlock) s_.2.1 t008) ∧ (Kd.R k44o 44 w' w.heap.size (fun k_ => some k_ ≠ (s_.1 : Value).ownBlock ∧ some k_ ≠ (s_.2.1 : Value).ownBlock ∧ k_ ≠ s_.2.2) u3 y3_1) ∧ (w'.heap[s_.2.2]? = some (.cells #[.string (⟨#[]⟩ : ByteArray), .slice none 0 0, .int .i64 0, .slice none 0 0, .slice none 0 0] 44 (0, 0))) ∧ (w.heap.size ≤ s_.2.2) ∧ (w.heap.size ≤ s_.2.2) ∧ (Below w.heap.size w w')) ?_ ?_
     rotate_left
     ·intro hCont
      refine two_ (i := 15) (j := 23) (Ni := some 28) (Nj := some 5) #[true, true, true, true, true, true, true, true, true, true, true, true, true, true, true, true, true, true, true, true, true, false, false, false, false] #[true, true, true, true, true, true, true, true, true, true, true, true, true, true, true, false, true, true, true, true, true, false, false, true, false] rfl rfl rfl rfl (two_of HT_.out (by kernel_rfl)) (by decide) (by decide) (fun K hK => ?_) (fun K hK => ?_)
      ·skip
       refine goes_ Tryd.func51 (by kernel_rfl) rfl #[.slice A001_1 ((rd_T44 l0 x4_1).f1).length c001_1] (by rfl) rfl rfl (by (try simp only [List.map_toArray, List.map_cons, List.map_nil]); first | done | rfl | (simp only [List.length_drop, List.length_take]; rfl)) ?_
       with_reducible refine (tinderref03_Copy.calls _ _ ((rd_T44 l0 x4_1).f1) t004 _ ?side1 ?side2 A4.out).mono ?_
       (case side1 => repeat (first | exact (Kd.C_below HR003_1.out HB.out) | (with_reducible refine Kd.C_alloc ?_ _) | (with_reducible refine Kd.C_drewN ?_ _) | (with_reducible refine Kd.C_drew ?_)))
       (case side2 => exact HC003_1.out)
       rintro e w7 ⟨v005, rfl, ho0, hb⟩
       refine ⟨_, rfl, ?_⟩
       have n0_ := Aside0.mk (Kd.R_elder' (by (with_reducible repeat (first | apply Kd.R_alloc | apply Kd.R_drewN | apply Kd.R_drew)); exact HO_3.out) (Kd.R_base ho0) hb)
       have n1_ := Aside0.mk (Kd.R_lower ho0 (below_size (by repeat (first | (with_reducible first | exact HB.out | apply below_alloc | apply pw_below_drewN | apply below_drew1) | exact HB.out))))
       have n2_ := Aside0.mk (below_step (by repeat (first | (with_reducible first | exact HB.out | apply below_alloc | apply pw_below_drewN | apply below_drew1) | exact HB.out)) hb)
       clear HO_3
       clear HB
       have HO_3 := n0_
       have HO006 := n1_
       have HB := n2_
       clear n0_ n1_ n2_
       (try clear hb)
       (try clear hb2)
       (try clear hk)
       (try clear hi)
       (try clear ho0)
       refine hK.out _ _ ⟨((HB.out.cell (World.block_lt_of_cell? w _ hw001_0)).trans hw001_0), ((HB.out.cell (World.block_lt_of_cell? w _ hw001_1)).trans hw001_1), ((HB.out.cell (World.block_lt_of_cell? w _ hw001_2)).trans hw001_2), ((HB.out.cell (World.block_lt_of_cell? w _ hw001_3)).trans hw001_3), ((HB.out.cell (World.block_lt_of_cell? w _ hw001_4)).trans hw001_4), ((HB.out.cell (World.block_lt_of_cell? w _ hw002_0)).trans hw002_0), ((HB.out.cell (World.block_lt_of_cell? w _ hw002_1)).trans hw002_1), ((HB.out.cell (World.block_lt_of_cell? w _ hw002_2)).trans hw002_2), ((HB.out.cell (World.block_lt_of_cell? w _ hw002_3)).trans hw002_3), ((HB.out.cell (World.block_lt_of_cell? w _ hw002_4)).trans hw002_4), ((HB.out.cell (World.block_lt_of_cell? w _ hw003_0)).trans hw003_0), ((HB.out.cell (World.block_lt_of_cell? w _ hw003_1)).trans hw003_1), ((HB.out.cell (World.block_lt_of_cell? w _ hw003_2)).trans hw003_2), ((HB.out.cell (World.block_lt_of_cell? w _ hw003_3)).trans hw003_3), ((HB.out.cell (World.block_lt_of_cell? w _ hw003_4)).trans hw003_4), ((HB.out.cell (World.block_lt_of_cell? w _ hw007_0)).trans hw007_0), ((HB.out.cell (World.block_lt_of_cell? w _ hw007_1)).trans hw007_1), ((HB.out.cell (World.block_lt_of_cell? w _ hw007_2)).trans hw007_2), ((HB.out.cell (World.block_lt_of_cell? w _ hw007_3)).trans hw007_3), ((HB.out.cell (World.block_lt_of_cell? w _ hw007_4)).trans hw007_4)⟩ (fun hHeld => ?_)
       clear hK K
       refine norm_ (a' := ?_) ?_ ?_
       rotate_left
       ·show Act.put _ (some 28) _ = _
        simp only [Act.put, List.setIfInBounds_toArray, List.set_cons_zero, List.set_cons_succ, i64_w, i32_w]
        rfl
       refine two_ (i := 21) (j := 23) (Ni := some 34) (Nj := some 5) #[true, true, true, true, true, true, true, true, true, true, true, true, true, true, true, true, true, true, true, true, true, true, false, false, false] #[true, true, true, true, true, true, true, true, true, true, true, true, true, true, true, true, true, true, true, true, true, false, false, true, false] rfl rfl rfl rfl (two_of HT_.out (by kernel_rfl)) (by decide) (by decide) (fun K hK => ?_) (fun K hK => ?_)
       ·skip
        refine goes_ Tryd.func51 (by kernel_rfl) rfl #[.slice A001_4 ((rd_T44 l0 x4_1).f4).length c001_4] (by rfl) rfl rfl (by (try simp only [List.map_toArray, List.map_cons, List.map_nil]); first | done | rfl | (simp only [List.length_drop, List.length_take]; rfl)) ?_
        with_reducible refine (tinderref03_Copy.calls _ _ ((rd_T44 l0 x4_1).f4) t008 _ ?side1 ?side2 A5.out).mono ?_
        (case side1 => repeat (first | exact (Kd.C_below HR007_4.out HB.out) | (with_reducible refine Kd.C_alloc ?_ _) | (with_reducible refine Kd.C_drewN ?_ _) | (with_reducible refine Kd.C_drew ?_)))
        (case side2 => exact HC007_4.out)
        rintro e w8 ⟨v009, rfl, ho0, hb⟩
        refine ⟨_, rfl, ?_⟩
        have n0_ := Aside0.mk (Kd.R_elder' (by (with_reducible repeat (first | apply Kd.R_alloc | apply Kd.R_drewN | apply Kd.R_drew)); exact HO_3.out) (Kd.R_base ho0) hb)
        have n1_ := Aside0.mk (Kd.R_elder' (by (with_reducible repeat (first | apply Kd.R_alloc | apply Kd.R_drewN | apply Kd.R_drew)); exact HO006.out) (Kd.R_base ho0) hb)
        have n2_ := Aside0.mk (Kd.R_lower (Kd.R_new' ho0 (Kd.R_lt (by (with_reducible repeat (first | apply Kd.R_alloc | apply Kd.R_drewN | apply Kd.R_drew)); exact HO006.out))) (below_size (by repeat (first | (with_reducible first | exact HB.out | apply below_alloc | apply pw_below_drewN | apply below_drew1) | exact HB.out))))
        have n3_ := Aside0.mk (below_step (by repeat (first | (with_reducible first | exact HB.out | apply below_alloc | apply pw_below_drewN | apply below_drew1) | exact HB.out)) hb)
        clear HO_3
        clear HO006
        clear HB
        have HO_3 := n0_
        have HO006 := n1_
        have HO010 := n2_
        have HB := n3_
        clear n0_ n1_ n2_ n3_
        (try clear hb)
        (try clear hb2)
        (try clear hk)
        (try clear hi)
        (try clear ho0)
        obtain ⟨Ao9, co9, eo9⟩ := Kd.R_slice HO010.out
        (first | subst eo9 | (injection eo9 with f1_ f2_ f3_; have f4_ := f1_.symm; have f5_ := f3_.symm; clear f1_ f2_ f3_; subst f4_; subst f5_))
        obtain ⟨Ao10, co10, eo10⟩ := Kd.R_slice HO006.out
        (first | subst eo10 | (injection eo10 with f1_ f2_ f3_; have f4_ := f1_.symm; have f5_ := f3_.symm; clear f1_ f2_ f3_; subst f4_; subst f5_))
        refine hK.out _ _ ⟨((HB.out.cell (World.block_lt_of_cell? w _ hw001_0)).trans hw001_0), ((HB.out.cell (World.block_lt_of_cell? w _ hw001_1)).trans hw001_1), ((HB.out.cell (World.block_lt_of_cell? w _ hw001_2)).trans hw001_2), ((HB.out.cell (World.block_lt_of_cell? w _ hw001_3)).trans hw001_3), ((HB.out.cell (World.block_lt_of_cell? w _ hw001_4)).trans hw001_4), ((HB.out.cell (World.block_lt_of_cell? w _ hw002_0)).trans hw002_0), ((HB.out.cell (World.block_lt_of_cell? w _ hw002_1)).trans hw002_1), ((HB.out.cell (World.block_lt_of_cell? w _ hw002_2)).trans hw002_2), ((HB.out.cell (World.block_lt_of_cell? w _ hw002_3)).trans hw002_3), ((HB.out.cell (World.block_lt_of_cell? w _ hw002_4)).trans hw002_4), ((HB.out.cell (World.block_lt_of_cell? w _ hw003_0)).trans hw003_0), ((HB.out.cell (World.block_lt_of_cell? w _ hw003_1)).trans hw003_1), ((HB.out.cell (World.block_lt_of_cell? w _ hw003_2)).trans hw003_2), ((HB.out.cell (World.block_lt_of_cell? w _ hw003_3)).trans hw003_3), ((HB.out.cell (World.block_lt_of_cell? w _ hw003_4)).trans hw003_4), ((HB.out.cell (World.block_lt_of_cell? w _ hw007_0)).trans hw007_0), ((HB.out.cell (World.block_lt_of_cell? w _ hw007_1)).trans hw007_1), ((HB.out.cell (World.block_lt_of_cell? w _ hw007_2)).trans hw007_2), ((HB.out.cell (World.block_lt_of_cell? w _ hw007_3)).trans hw007_3), ((HB.out.cell (World.block_lt_of_cell? w _ hw007_4)).trans hw007_4)⟩ (fun hHeld => ?_)
        clear hK K
        refine norm_ (a' := ?_) ?_ ?_
        rotate_left
        ·show Act.put _ (some 34) _ = _
         simp only [Act.put, List.setIfInBounds_toArray, List.set_cons_zero, List.set_cons_succ, i64_w, i32_w]
         rfl
        refine pure_ (i := 22) (N := some 35) (v := ?_) (a' := ?_) #[true, true, true, true, true, true, true, true, true, true, true, true, true, true, true, true, true, true, true, true, true, true, true, false, false] rfl rfl (any_of HT_.out (by kernel_rfl)) (fun _ _ _ h => h) (Or.inl ⟨by rfl, ?_⟩) ?_ ?_
        rotate_left
        ·intro w'
         go_simp
         with_reducible rfl
        rotate_left
        ·simp only [Act.put, List.setIfInBounds_toArray, List.set_cons_zero, List.set_cons_succ, i64_w, i32_w]
         rfl
        refine one_ (i := 23) (N := some 5) #[true, true, true, true, true, true, true, true, true, true, true, true, true, true, true, true, true, true, true, true, true, true, true, true, false] rfl rfl (one_of HT_.out (by kernel_rfl)) (by decide) (fun K hK => ?_)
        refine box_step ?hg (N := 5) ?hd (cs := #[.string (⟨#[]⟩ : ByteArray), .slice none 0 0, .int .i64 0, .slice none 0 0, .slice none 0 0]) (t := 44) ?hr ?_; (case hd => rfl); (case hg => rfl); (case hr => first | (go_simp; done) | (go_simp; rfl))
        intro gb011 hg w11 hbox hb
        have n0_ := Aside0.mk (Kd.R_below (Kd.R_elderB (by (with_reducible repeat (first | apply Kd.R_alloc | apply Kd.R_drewN | apply Kd.R_drew)); exact HO_3.out) gb011 (Nat.le_of_eq hg.symm)) hb)
        have n1_ := Aside0.mk (Kd.R_below (by (with_reducible repeat (first | apply Kd.R_alloc | apply Kd.R_drewN | apply Kd.R_drew)); exact HO006.out) hb)
        have n2_ := Aside0.mk (Kd.R_below (by (with_reducible repeat (first | apply Kd.R_alloc | apply Kd.R_drewN | apply Kd.R_drew)); exact HO010.out) hb)
        have n3_ := Aside0.mk (below_step (by repeat (first | (with_reducible first | exact HB.out | apply below_alloc | apply pw_below_drewN | apply below_drew1) | exact HB.out)) hb)
        have n4_ := Aside0.mk (hbox)
        have n5_ := Aside0.mk ((by rw [hg]; exact (below_size (by repeat (first | (with_reducible first | exact HB.out | apply below_alloc | apply pw_below_drewN | apply below_drew1) | exact HB.out))) : w.heap.size ≤ gb011))
        have n6_ := Aside0.mk ((by rw [hg]; exact (below_size (by repeat (first | (with_reducible first | exact HB.out | apply below_alloc | apply pw_below_drewN | apply below_drew1) | exact HB.out))) : w.heap.size ≤ gb011))
        clear HO_3
        clear HO006
        clear HO010
        clear HB
        have HO_3 := n0_
        have HO006 := n1_
        have HO010 := n2_
        have HB := n3_
        have BK011 := n4_
        have GW011 := n5_
        have GE011 := n6_
        clear n0_ n1_ n2_ n3_ n4_ n5_ n6_
        clear hb hbox hg
        refine hK.out _ _ ⟨((HB.out.cell (World.block_lt_of_cell? w _ hw001_0)).trans hw001_0), ((HB.out.cell (World.block_lt_of_cell? w _ hw001_1)).trans hw001_1), ((HB.out.cell (World.block_lt_of_cell? w _ hw001_2)).trans hw001_2), ((HB.out.cell (World.block_lt_of_cell? w _ hw001_3)).trans hw001_3), ((HB.out.cell (World.block_lt_of_cell? w _ hw001_4)).trans hw001_4), ((HB.out.cell (World.block_lt_of_cell? w _ hw002_0)).trans hw002_0), ((HB.out.cell (World.block_lt_of_cell? w _ hw002_1)).trans hw002_1), ((HB.out.cell (World.block_lt_of_cell? w _ hw002_2)).trans hw002_2), ((HB.out.cell (World.block_lt_of_cell? w _ hw002_3)).trans hw002_3), ((HB.out.cell (World.block_lt_of_cell? w _ hw002_4)).trans hw002_4), ((HB.out.cell (World.block_lt_of_cell? w _ hw003_0)).trans hw003_0), ((HB.out.cell (World.block_lt_of_cell? w _ hw003_1)).trans hw003_1), ((HB.out.cell (World.block_lt_of_cell? w _ hw003_2)).trans hw003_2), ((HB.out.cell (World.block_lt_of_cell? w _ hw003_3)).trans hw003_3), ((HB.out.cell (World.block_lt_of_cell? w _ hw003_4)).trans hw003_4), ((HB.out.cell (World.block_lt_of_cell? w _ hw007_0)).trans hw007_0), ((HB.out.cell (World.block_lt_of_cell? w _ hw007_1)).trans hw007_1), ((HB.out.cell (World.block_lt_of_cell? w _ hw007_2)).trans hw007_2), ((HB.out.cell (World.block_lt_of_cell? w _ hw007_3)).trans hw007_3), ((HB.out.cell (World.block_lt_of_cell? w _ hw007_4)).trans hw007_4)⟩ (fun hHeld => ?_)
        clear hK K
        refine norm_ (a' := ?_) ?_ ?_
        rotate_left
        ·show Act.put _ (some 5) _ = _
         simp only [Act.put, List.setIfInBounds_toArray, List.set_cons_zero, List.set_cons_succ, i64_w, i32_w]
         rfl
        exact norm_ (by simp only [putAll, Act.put, List.setIfInBounds_toArray, List.set_cons_zero, List.set_cons_succ]) (hCont (.slice Ao10 t004.length co10, .slice Ao9 t008.length co9, gb011) _ ⟨hHeld, (by (with_reducible repeat (first | apply Kd.R_alloc | apply Kd.R_drewN | apply Kd.R_drew)); exact Kd.R_mono HO006.out (fun _ hk => hk.2)), (by (with_reducible repeat (first | apply Kd.R_alloc | apply Kd.R_drewN | apply Kd.R_drew)); exact Kd.R_mono HO010.out (fun _ hk => hk.2)), (by (with_reducible repeat (first | apply Kd.R_alloc | apply Kd.R_drewN | apply Kd.R_drew)); exact Kd.R_mono HO_3.out (fun _ hk => ⟨hk.1.1.2, ⟨hk.1.2, hk.2⟩⟩)), (by (with_reducible repeat (first | refine blk_drewN ?_ _ | refine blk_drew ?_ | refine blk_alloc ?_ _)); exact BK011.out), GW011.out, GE011.out, (by repeat (first | (with_reducible first | exact HB.out | apply below_alloc | apply pw_below_drewN | apply below_drew1 | refine below_set ?_ GE011.out) | exact HB.out))⟩)
       ·skip
        refine box_step ?hg (N := 5) ?hd (cs := #[.string (⟨#[]⟩ : ByteArray), .slice none 0 0, .int .i64 0, .slice none 0 0, .slice none 0 0]) (t := 44) ?hr ?_; (case hd => rfl); (case hg => rfl); (case hr => first | (go_simp; done) | (go_simp; rfl))
        intro gb011 hg w8 hbox hb
        have n0_ := Aside0.mk (Kd.R_below (Kd.R_elderB (by (with_reducible repeat (first | apply Kd.R_alloc | apply Kd.R_drewN | apply Kd.R_drew)); exact HO_3.out) gb011 (Nat.le_of_eq hg.symm)) hb)
        have n1_ := Aside0.mk (Kd.R_below (by (with_reducible repeat (first | apply Kd.R_alloc | apply Kd.R_drewN | apply Kd.R_drew)); exact HO006.out) hb)
        have n2_ := Aside0.mk (below_step (by repeat (first | (with_reducible first | exact HB.out | apply below_alloc | apply pw_below_drewN | apply below_drew1) | exact HB.out)) hb)
        have n3_ := Aside0.mk (hbox)
        have n4_ := Aside0.mk ((by rw [hg]; exact (below_size (by repeat (first | (with_reducible first | exact HB.out | apply below_alloc | apply pw_below_drewN | apply below_drew1) | exact HB.out))) : w.heap.size ≤ gb011))
        have n5_ := Aside0.mk ((by rw [hg]; exact (below_size (by repeat (first | (with_reducible first | exact HB.out | apply below_alloc | apply pw_below_drewN | apply below_drew1) | exact HB.out))) : w.heap.size ≤ gb011))
        clear HO_3
        clear HO006
        clear HB
        have HO_3 := n0_
        have HO006 := n1_
        have HB := n2_
        have BK011 := n3_
        have GW011 := n4_
        have GE011 := n5_
        clear n0_ n1_ n2_ n3_ n4_ n5_
        clear hb hbox hg
        refine hK.out _ _ ⟨((HB.out.cell (World.block_lt_of_cell? w _ hw001_0)).trans hw001_0), ((HB.out.cell (World.block_lt_of_cell? w _ hw001_1)).trans hw001_1), ((HB.out.cell (World.block_lt_of_cell? w _ hw001_2)).trans hw001_2), ((HB.out.cell (World.block_lt_of_cell? w _ hw001_3)).trans hw001_3), ((HB.out.cell (World.block_lt_of_cell? w _ hw001_4)).trans hw001_4), ((HB.out.cell (World.block_lt_of_cell? w _ hw002_0)).trans hw002_0), ((HB.out.cell (World.block_lt_of_cell? w _ hw002_1)).trans hw002_1), ((HB.out.cell (World.block_lt_of_cell? w _ hw002_2)).trans hw002_2), ((HB.out.cell (World.block_lt_of_cell? w _ hw002_3)).trans hw002_3), ((HB.out.cell (World.block_lt_of_cell? w _ hw002_4)).trans hw002_4), ((HB.out.cell (World.block_lt_of_cell? w _ hw003_0)).trans hw003_0), ((HB.out.cell (World.block_lt_of_cell? w _ hw003_1)).trans hw003_1), ((HB.out.cell (World.block_lt_of_cell? w _ hw003_2)).trans hw003_2), ((HB.out.cell (World.block_lt_of_cell? w _ hw003_3)).trans hw003_3), ((HB.out.cell (World.block_lt_of_cell? w _ hw003_4)).trans hw003_4), ((HB.out.cell (World.block_lt_of_cell? w _ hw007_0)).trans hw007_0), ((HB.out.cell (World.block_lt_of_cell? w _ hw007_1)).trans hw007_1), ((HB.out.cell (World.block_lt_of_cell? w _ hw007_2)).trans hw007_2), ((HB.out.cell (World.block_lt_of_cell? w _ hw007_3)).trans hw007_3), ((HB.out.cell (World.block_lt_of_cell? w _ hw007_4)).trans hw007_4)⟩ (fun hHeld => ?_)
        clear hK K
        refine norm_ (a' := ?_) ?_ ?_
        rotate_left
        ·show Act.put _ (some 5) _ = _
         simp only [Act.put, List.setIfInBounds_toArray, List.set_cons_zero, List.set_cons_succ, i64_w, i32_w]
         rfl
        refine one_ (i := 21) (N := some 34) #[true, true, true, true, true, true, true, true, true, true, true, true, true, true, true, true, true, true, true, true, true, true, false, true, false] rfl rfl (one_of HT_.out (by kernel_rfl)) (by decide) (fun K hK => ?_)
        refine goes_ Tryd.func51 (by kernel_rfl) rfl #[.slice A001_4 ((rd_T44 l0 x4_1).f4).length c001_4] (by rfl) rfl rfl (by (try simp only [List.map_toArray, List.map_cons, List.map_nil]); first | done | rfl | (simp only [List.length_drop, List.length_take]; rfl)) ?_
        with_reducible refine (tinderref03_Copy.calls _ _ ((rd_T44 l0 x4_1).f4) t008 _ ?side1 ?side2 A5.out).mono ?_
        (case side1 => repeat (first | exact (Kd.C_below HR007_4.out HB.out) | (with_reducible refine Kd.C_alloc ?_ _) | (with_reducible refine Kd.C_drewN ?_ _) | (with_reducible refine Kd.C_drew ?_)))
        (case side2 => exact HC007_4.out)
        rintro e w9 ⟨v009, rfl, ho0, hb⟩
        refine ⟨_, rfl, ?_⟩
        have n0_ := Aside0.mk (Kd.R_elder' (by (with_reducible repeat (first | apply Kd.R_alloc | apply Kd.R_drewN | apply Kd.R_drew)); exact HO_3.out) (Kd.R_base ho0) hb)
        have n1_ := Aside0.mk (Kd.R_elder' (by (with_reducible repeat (first | apply Kd.R_alloc | apply Kd.R_drewN | apply Kd.R_drew)); exact HO006.out) (Kd.R_base ho0) hb)
        have n2_ := Aside0.mk (Kd.R_lower (Kd.R_new' ho0 (Kd.R_lt (by (with_reducible repeat (first | apply Kd.R_alloc | apply Kd.R_drewN | apply Kd.R_drew)); exact HO006.out))) (below_size (by repeat (first | (with_reducible first | exact HB.out | apply below_alloc | apply pw_below_drewN | apply below_drew1 | refine below_set ?_ GE011.out) | exact HB.out))))
        have n3_ := Aside0.mk (blk_below (g := gb011) (o := .cells #[.string (⟨#[]⟩ : ByteArray), .slice none 0 0, .int .i64 0, .slice none 0 0, .slice none 0 0] 44 (0, 0)) (by (with_reducible repeat (first | refine blk_drewN ?_ _ | refine blk_drew ?_ | refine blk_alloc ?_ _)); exact BK011.out) hb)
        have n4_ := Aside0.mk (below_step (by repeat (first | (with_reducible first | exact HB.out | apply below_alloc | apply pw_below_drewN | apply below_drew1 | refine below_set ?_ GE011.out) | exact HB.out)) hb)
        clear HO_3
        clear HO006
        clear BK011
        clear HB
        have HO_3 := n0_
        have HO006 := n1_
        have HO010 := n2_
        have BK011 := n3_
        have HB := n4_
        clear n0_ n1_ n2_ n3_ n4_
        (try clear hb)
        (try clear hb2)
        (try clear hk)
        (try clear hi)
        (try clear ho0)
        obtain ⟨Ao10, co10, eo10⟩ := Kd.R_slice HO010.out
        (first | subst eo10 | (injection eo10 with f1_ f2_ f3_; have f4_ := f1_.symm; have f5_ := f3_.symm; clear f1_ f2_ f3_; subst f4_; subst f5_))
        obtain ⟨Ao11, co11, eo11⟩ := Kd.R_slice HO006.out
        (first | subst eo11 | (injection eo11 with f1_ f2_ f3_; have f4_ := f1_.symm; have f5_ := f3_.symm; clear f1_ f2_ f3_; subst f4_; subst f5_))
        refine hK.out _ _ ⟨((HB.out.cell (World.block_lt_of_cell? w _ hw001_0)).trans hw001_0), ((HB.out.cell (World.block_lt_of_cell? w _ hw001_1)).trans hw001_1), ((HB.out.cell (World.block_lt_of_cell? w _ hw001_2)).trans hw001_2), ((HB.out.cell (World.block_lt_of_cell? w _ hw001_3)).trans hw001_3), ((HB.out.cell (World.block_lt_of_cell? w _ hw001_4)).trans hw001_4), ((HB.out.cell (World.block_lt_of_cell? w _ hw002_0)).trans hw002_0), ((HB.out.cell (World.block_lt_of_cell? w _ hw002_1)).trans hw002_1), ((HB.out.cell (World.block_lt_of_cell? w _ hw002_2)).trans hw002_2), ((HB.out.cell (World.block_lt_of_cell? w _ hw002_3)).trans hw002_3), ((HB.out.cell (World.block_lt_of_cell? w _ hw002_4)).trans hw002_4), ((HB.out.cell (World.block_lt_of_cell? w _ hw003_0)).trans hw003_0), ((HB.out.cell (World.block_lt_of_cell? w _ hw003_1)).trans hw003_1), ((HB.out.cell (World.block_lt_of_cell? w _ hw003_2)).trans hw003_2), ((HB.out.cell (World.block_lt_of_cell? w _ hw003_3)).trans hw003_3), ((HB.out.cell (World.block_lt_of_cell? w _ hw003_4)).trans hw003_4), ((HB.out.cell (World.block_lt_of_cell? w _ hw007_0)).trans hw007_0), ((HB.out.cell (World.block_lt_of_cell? w _ hw007_1)).trans hw007_1), ((HB.out.cell (World.block_lt_of_cell? w _ hw007_2)).trans hw007_2), ((HB.out.cell (World.block_lt_of_cell? w _ hw007_3)).trans hw007_3), ((HB.out.cell (World.block_lt_of_cell? w _ hw007_4)).trans hw007_4)⟩ (fun hHeld => ?_)
        clear hK K
        refine norm_ (a' := ?_) ?_ ?_
        rotate_left
        ·show Act.put _ (some 34) _ = _
         simp only [Act.put, List.setIfInBounds_toArray, List.set_cons_zero, List.set_cons_succ, i64_w, i32_w]
         rfl
        refine pure_ (i := 22) (N := some 35) (v := ?_) (a' := ?_) #[true, true, true, true, true, true, true, true, true, true, true, true, true, true, true, true, true, true, true, true, true, true, true, true, false] rfl rfl (any_of HT_.out (by kernel_rfl)) (fun _ _ _ h => h) (Or.inl ⟨by rfl, ?_⟩) ?_ ?_
        rotate_left
        ·intro w'
         go_simp
         with_reducible rfl
        rotate_left
        ·simp only [Act.put, List.setIfInBounds_toArray, List.set_cons_zero, List.set_cons_succ, i64_w, i32_w]
         rfl
        exact norm_ (by simp only [putAll, Act.put, List.setIfInBounds_toArray, List.set_cons_zero, List.set_cons_succ]) (hCont (.slice Ao11 t004.length co11, .slice Ao10 t008.length co10, gb011) _ ⟨hHeld, (by (with_reducible repeat (first | apply Kd.R_alloc | apply Kd.R_drewN | apply Kd.R_drew)); exact Kd.R_mono HO006.out (fun _ hk => hk.2)), (by (with_reducible repeat (first | apply Kd.R_alloc | apply Kd.R_drewN | apply Kd.R_drew)); exact Kd.R_mono HO010.out (fun _ hk => hk.2)), (by (with_reducible repeat (first | apply Kd.R_alloc | apply Kd.R_drewN | apply Kd.R_drew)); exact Kd.R_mono HO_3.out (fun _ hk => ⟨hk.1.1.2, ⟨hk.2, hk.1.2⟩⟩)), (by (with_reducible repeat (first | refine blk_drewN ?_ _ | refine blk_drew ?_ | refine blk_alloc ?_ _)); exact BK011.out), GW011.out, GE011.out, (by repeat (first | (with_reducible first | exact HB.out | apply below_alloc | apply pw_below_drewN | apply below_drew1 | refine below_set ?_ GE011.out) | exact HB.out))⟩)
      ·skip
       refine box_step ?hg (N := 5) ?hd (cs := #[.string (⟨#[]⟩ : ByteArray), .slice none 0 0, .int .i64 0, .slice none 0 0, .slice none 0 0]) (t := 44) ?hr ?_; (case hd => rfl); (case hg => rfl); (case hr => first | (go_simp; done) | (go_simp; rfl))
       intro gb011 hg w7 hbox hb
       have n0_ := Aside0.mk (Kd.R_below (Kd.R_elderB (by (with_reducible repeat (first | apply Kd.R_alloc | apply Kd.R_drewN | apply Kd.R_drew)); exact HO_3.out) gb011 (Nat.le_of_eq hg.symm)) hb)
       have n1_ := Aside0.mk (below_step (by repeat (first | (with_reducible first | exact HB.out | apply below_alloc | apply pw_below_drewN | apply below_drew1) | exact HB.out)) hb)
       have n2_ := Aside0.mk (hbox)
       have n3_ := Aside0.mk ((by rw [hg]; exact (below_size (by repeat (first | (with_reducible first | exact HB.out | apply below_alloc | apply pw_below_drewN | apply below_drew1) | exact HB.out))) : w.heap.size ≤ gb011))
       have n4_ := Aside0.mk ((by rw [hg]; exact (below_size (by repeat (first | (with_reducible first | exact HB.out | apply below_alloc | apply pw_below_drewN | apply below_drew1) | exact HB.out))) : w.heap.size ≤ gb011))
       clear HO_3
       clear HB
       have HO_3 := n0_
       have HB := n1_
       have BK011 := n2_
       have GW011 := n3_
       have GE011 := n4_
       clear n0_ n1_ n2_ n3_ n4_
       clear hb hbox hg
       refine hK.out _ _ ⟨((HB.out.cell (World.block_lt_of_cell? w _ hw001_0)).trans hw001_0), ((HB.out.cell (World.block_lt_of_cell? w _ hw001_1)).trans hw001_1), ((HB.out.cell (World.block_lt_of_cell? w _ hw001_2)).trans hw001_2), ((HB.out.cell (World.block_lt_of_cell? w _ hw001_3)).trans hw001_3), ((HB.out.cell (World.block_lt_of_cell? w _ hw001_4)).trans hw001_4), ((HB.out.cell (World.block_lt_of_cell? w _ hw002_0)).trans hw002_0), ((HB.out.cell (World.block_lt_of_cell? w _ hw002_1)).trans hw002_1), ((HB.out.cell (World.block_lt_of_cell? w _ hw002_2)).trans hw002_2), ((HB.out.cell (World.block_lt_of_cell? w _ hw002_3)).trans hw002_3), ((HB.out.cell (World.block_lt_of_cell? w _ hw002_4)).trans hw002_4), ((HB.out.cell (World.block_lt_of_cell? w _ hw003_0)).trans hw003_0), ((HB.out.cell (World.block_lt_of_cell? w _ hw003_1)).trans hw003_1), ((HB.out.cell (World.block_lt_of_cell? w _ hw003_2)).trans hw003_2), ((HB.out.cell (World.block_lt_of_cell? w _ hw003_3)).trans hw003_3), ((HB.out.cell (World.block_lt_of_cell? w _ hw003_4)).trans hw003_4), ((HB.out.cell (World.block_lt_of_cell? w _ hw007_0)).trans hw007_0), ((HB.out.cell (World.block_lt_of_cell? w _ hw007_1)).trans hw007_1), ((HB.out.cell (World.block_lt_of_cell? w _ hw007_2)).trans hw007_2), ((HB.out.cell (World.block_lt_of_cell? w _ hw007_3)).trans hw007_3), ((HB.out.cell (World.block_lt_of_cell? w _ hw007_4)).trans hw007_4)⟩ (fun hHeld => ?_)
       clear hK K
       refine norm_ (a' := ?_) ?_ ?_
       rotate_left
       ·show Act.put _ (some 5) _ = _
        simp only [Act.put, List.setIfInBounds_toArray, List.set_cons_zero, List.set_cons_succ, i64_w, i32_w]
        rfl
       refine one_ (i := 15) (N := some 28) #[true, true, true, true, true, true, true, true, true, true, true, true, true, true, true, true, true, true, true, true, true, false, false, true, false] rfl rfl (one_of HT_.out (by kernel_rfl)) (by decide) (fun K hK => ?_)
       refine goes_ Tryd.func51 (by kernel_rfl) rfl #[.slice A001_1 ((rd_T44 l0 x4_1).f1).length c001_1] (by rfl) rfl rfl (by (try simp only [List.map_toArray, List.map_cons, List.map_nil]); first | done | rfl | (simp only [List.length_drop, List.length_take]; rfl)) ?_
       with_reducible refine (tinderref03_Copy.calls _ _ ((rd_T44 l0 x4_1).f1) t004 _ ?side1 ?side2 A4.out).mono ?_
       (case side1 => repeat (first | exact (Kd.C_below HR003_1.out HB.out) | (with_reducible refine Kd.C_alloc ?_ _) | (with_reducible refine Kd.C_drewN ?_ _) | (with_reducible refine Kd.C_drew ?_)))
       (case side2 => exact HC003_1.out)
       rintro e w8 ⟨v005, rfl, ho0, hb⟩
       refine ⟨_, rfl, ?_⟩
       have n0_ := Aside0.mk (Kd.R_elder' (by (with_reducible repeat (first | apply Kd.R_alloc | apply Kd.R_drewN | apply Kd.R_drew)); exact HO_3.out) (Kd.R_base ho0) hb)
       have n1_ := Aside0.mk (Kd.R_lower ho0 (below_size (by repeat (first | (with_reducible first | exact HB.out | apply below_alloc | apply pw_below_drewN | apply below_drew1 | refine below_set ?_ GE011.out) | exact HB.out))))
       have n2_ := Aside0.mk (blk_below (g := gb011) (o := .cells #[.string (⟨#[]⟩ : ByteArray), .slice none 0 0, .int .i64 0, .slice none 0 0, .slice none 0 0] 44 (0, 0)) (by (with_reducible repeat (first | refine blk_drewN ?_ _ | refine blk_drew ?_ | refine blk_alloc ?_ _)); exact BK011.out) hb)
       have n3_ := Aside0.mk (below_step (by repeat (first | (with_reducible first | exact HB.out | apply below_alloc | apply pw_below_drewN | apply below_drew1 | refine below_set ?_ GE011.out) | exact HB.out)) hb)
       clear HO_3
       clear BK011
       clear HB
       have HO_3 := n0_
       have HO006 := n1_
       have BK011 := n2_
       have HB := n3_
       clear n0_ n1_ n2_ n3_
       (try clear hb)
       (try clear hb2)
       (try clear hk)
       (try clear hi)
       (try clear ho0)
       refine hK.out _ _ ⟨((HB.out.cell (World.block_lt_of_cell? w _ hw001_0)).trans hw001_0), ((HB.out.cell (World.block_lt_of_cell? w _ hw001_1)).trans hw001_1), ((HB.out.cell (World.block_lt_of_cell? w _ hw001_2)).trans hw001_2), ((HB.out.cell (World.block_lt_of_cell? w _ hw001_3)).trans hw001_3), ((HB.out.cell (World.block_lt_of_cell? w _ hw001_4)).trans hw001_4), ((HB.out.cell (World.block_lt_of_cell? w _ hw002_0)).trans hw002_0), ((HB.out.cell (World.block_lt_of_cell? w _ hw002_1)).trans hw002_1), ((HB.out.cell (World.block_lt_of_cell? w _ hw002_2)).trans hw002_2), ((HB.out.cell (World.block_lt_of_cell? w _ hw002_3)).trans hw002_3), ((HB.out.cell (World.block_lt_of_cell? w _ hw002_4)).trans hw002_4), ((HB.out.cell (World.block_lt_of_cell? w _ hw003_0)).trans hw003_0), ((HB.out.cell (World.block_lt_of_cell? w _ hw003_1)).trans hw003_1), ((HB.out.cell (World.block_lt_of_cell? w _ hw003_2)).trans hw003_2), ((HB.out.cell (World.block_lt_of_cell? w _ hw003_3)).trans hw003_3), ((HB.out.cell (World.block_lt_of_cell? w _ hw003_4)).trans hw003_4), ((HB.out.cell (World.block_lt_of_cell? w _ hw007_0)).trans hw007_0), ((HB.out.cell (World.block_lt_of_cell? w _ hw007_1)).trans hw007_1), ((HB.out.cell (World.block_lt_of_cell? w _ hw007_2)).trans hw007_2), ((HB.out.cell (World.block_lt_of_cell? w _ hw007_3)).trans hw007_3), ((HB.out.cell (World.block_lt_of_cell? w _ hw007_4)).trans hw007_4)⟩ (fun hHeld => ?_)
       clear hK K
       refine norm_ (a' := ?_) ?_ ?_
       rotate_left
       ·show Act.put _ (some 28) _ = _
        simp only [Act.put, List.setIfInBounds_toArray, List.set_cons_zero, List.set_cons_succ, i64_w, i32_w]
        rfl
       refine one_ (i := 21) (N := some 34) #[true, true, true, true, true, true, true, true, true, true, true, true, true, true, true, true, true, true, true, true, true, true, false, true, false] rfl rfl (one_of HT_.out (by kernel_rfl)) (by decide) (fun K hK => ?_)
       refine goes_ Tryd.func51 (by kernel_rfl) rfl #[.slice A001_4 ((rd_T44 l0 x4_1).f4).length c001_4] (by rfl) rfl rfl (by (try simp only [List.map_toArray, List.map_cons, List.map_nil]); first | done | rfl | (simp only [List.length_drop, List.length_take]; rfl)) ?_
       with_reducible refine (tinderref03_Copy.calls _ _ ((rd_T44 l0 x4_1).f4) t008 _ ?side1 ?side2 A5.out).mono ?_
       (case side1 => repeat (first | exact (Kd.C_below HR007_4.out HB.out) | (with_reducible refine Kd.C_alloc ?_ _) | (with_reducible refine Kd.C_drewN ?_ _) | (with_reducible refine Kd.C_drew ?_)))
       (case side2 => exact HC007_4.out)
       rintro e w9 ⟨v009, rfl, ho0, hb⟩
       refine ⟨_, rfl, ?_⟩
       have n0_ := Aside0.mk (Kd.R_elder' (by (with_reducible repeat (first | apply Kd.R_alloc | apply Kd.R_drewN | apply Kd.R_drew)); exact HO_3.out) (Kd.R_base ho0) hb)
       have n1_ := Aside0.mk (Kd.R_elder' (by (with_reducible repeat (first | apply Kd.R_alloc | apply Kd.R_drewN | apply Kd.R_drew)); exact HO006.out) (Kd.R_base ho0) hb)
       have n2_ := Aside0.mk (Kd.R_lower (Kd.R_new' ho0 (Kd.R_lt (by (with_reducible repeat (first | apply Kd.R_alloc | apply Kd.R_drewN | apply Kd.R_drew)); exact HO006.out))) (below_size (by repeat (first | (with_reducible first | exact HB.out | apply below_alloc | apply pw_below_drewN | apply below_drew1 | refine below_set ?_ GE011.out) | exact HB.out))))
       have n3_ := Aside0.mk (blk_below (g := gb011) (o := .cells #[.string (⟨#[]⟩ : ByteArray), .slice none 0 0, .int .i64 0, .slice none 0 0, .slice none 0 0] 44 (0, 0)) (by (with_reducible repeat (first | refine blk_drewN ?_ _ | refine blk_drew ?_ | refine blk_alloc ?_ _)); exact BK011.out) hb)
       have n4_ := Aside0.mk (below_step (by repeat (first | (with_reducible first | exact HB.out | apply below_alloc | apply pw_below_drewN | apply below_drew1 | refine below_set ?_ GE011.out) | exact HB.out)) hb)
       clear HO_3
       clear HO006
       clear BK011
       clear HB
       have HO_3 := n0_
       have HO006 := n1_
       have HO010 := n2_
       have BK011 := n3_
       have HB := n4_
       clear n0_ n1_ n2_ n3_ n4_
       (try clear hb)
       (try clear hb2)
       (try clear hk)
       (try clear hi)
       (try clear ho0)
       obtain ⟨Ao10, co10, eo10⟩ := Kd.R_slice HO010.out
       (first | subst eo10 | (injection eo10 with f1_ f2_ f3_; have f4_ := f1_.symm; have f5_ := f3_.symm; clear f1_ f2_ f3_; subst f4_; subst f5_))
       obtain ⟨Ao11, co11, eo11⟩ := Kd.R_slice HO006.out
       (first | subst eo11 | (injection eo11 with f1_ f2_ f3_; have f4_ := f1_.symm; have f5_ := f3_.symm; clear f1_ f2_ f3_; subst f4_; subst f5_))
       refine hK.out _ _ ⟨((HB.out.cell (World.block_lt_of_cell? w _ hw001_0)).trans hw001_0), ((HB.out.cell (World.block_lt_of_cell? w _ hw001_1)).trans hw001_1), ((HB.out.cell (World.block_lt_of_cell? w _ hw001_2)).trans hw001_2), ((HB.out.cell (World.block_lt_of_cell? w _ hw001_3)).trans hw001_3), ((HB.out.cell (World.block_lt_of_cell? w _ hw001_4)).trans hw001_4), ((HB.out.cell (World.block_lt_of_cell? w _ hw002_0)).trans hw002_0), ((HB.out.cell (World.block_lt_of_cell? w _ hw002_1)).trans hw002_1), ((HB.out.cell (World.block_lt_of_cell? w _ hw002_2)).trans hw002_2), ((HB.out.cell (World.block_lt_of_cell? w _ hw002_3)).trans hw002_3), ((HB.out.cell (World.block_lt_of_cell? w _ hw002_4)).trans hw002_4), ((HB.out.cell (World.block_lt_of_cell? w _ hw003_0)).trans hw003_0), ((HB.out.cell (World.block_lt_of_cell? w _ hw003_1)).trans hw003_1), ((HB.out.cell (World.block_lt_of_cell? w _ hw003_2)).trans hw003_2), ((HB.out.cell (World.block_lt_of_cell? w _ hw003_3)).trans hw003_3), ((HB.out.cell (World.block_lt_of_cell? w _ hw003_4)).trans hw003_4), ((HB.out.cell (World.block_lt_of_cell? w _ hw007_0)).trans hw007_0), ((HB.out.cell (World.block_lt_of_cell? w _ hw007_1)).trans hw007_1), ((HB.out.cell (World.block_lt_of_cell? w _ hw007_2)).trans hw007_2), ((HB.out.cell (World.block_lt_of_cell? w _ hw007_3)).trans hw007_3), ((HB.out.cell (World.block_lt_of_cell? w _ hw007_4)).trans hw007_4)⟩ (fun hHeld => ?_)
       clear hK K
       refine norm_ (a' := ?_) ?_ ?_
       rotate_left
       ·show Act.put _ (some 34) _ = _
        simp only [Act.put, List.setIfInBounds_toArray, List.set_cons_zero, List.set_cons_succ, i64_w, i32_w]
        rfl
       refine pure_ (i := 22) (N := some 35) (v := ?_) (a' := ?_) #[true, true, true, true, true, true, true, true, true, true, true, true, true, true, true, true, true, true, true, true, true, true, true, true, false] rfl rfl (any_of HT_.out (by kernel_rfl)) (fun _ _ _ h => h) (Or.inl ⟨by rfl, ?_⟩) ?_ ?_
       rotate_left
       ·intro w'
        go_simp
        with_reducible rfl
       rotate_left
       ·simp only [Act.put, List.setIfInBounds_toArray, List.set_cons_zero, List.set_cons_succ, i64_w, i32_w]
        rfl
       exact norm_ (by simp only [putAll, Act.put, List.setIfInBounds_toArray, List.set_cons_zero, List.set_cons_succ]) (hCont (.slice Ao11 t004.length co11, .slice Ao10 t008.length co10, gb011) _ ⟨hHeld, (by (with_reducible repeat (first | apply Kd.R_alloc | apply Kd.R_drewN | apply Kd.R_drew)); exact Kd.R_mono HO006.out (fun _ hk => hk.2)), (by (with_reducible repeat (first | apply Kd.R_alloc | apply Kd.R_drewN | apply Kd.R_drew)); exact Kd.R_mono HO010.out (fun _ hk => hk.2)), (by (with_reducible repeat (first | apply Kd.R_alloc | apply Kd.R_drewN | apply Kd.R_drew)); exact Kd.R_mono HO_3.out (fun _ hk => ⟨hk.1.2, ⟨hk.2, hk.1.1.2⟩⟩)), (by (with_reducible repeat (first | refine blk_drewN ?_ _ | refine blk_drew ?_ | refine blk_alloc ?_ _)); exact BK011.out), GW011.out, GE011.out, (by repeat (first | (with_reducible first | exact HB.out | apply below_alloc | apply pw_below_drewN | apply below_drew1 | refine below_set ?_ GE011.out) | exact HB.out))⟩)
     rintro ⟨v005, v009, gb011⟩ w12 ⟨hS_, h0_, h1_, h2_, h3_, h4_, h5_, h6_⟩
     have n0_ : Aside0 (Kd.R (Kd.int .u32) 66 w12 w.heap.size (fun k_ => some k_ ≠ (v009 : Value).ownBlock) v005 t004) := ⟨h0_⟩
     have n1_ : Aside0 (Kd.R (Kd.int .u32) 66 w12 w.heap.size (fun k_ => some k_ ≠ (v005 : Value).ownBlock) v009 t008) := ⟨h1_⟩
     have n2_ : Aside0 (Kd.R k44o 44 w12 w.heap.size (fun k_ => some k_ ≠ (v005 : Value).ownBlock ∧ some k_ ≠ (v009 : Value).ownBlock ∧ k_ ≠ gb011) u3 y3_1) := ⟨h2_⟩
     have n3_ : Aside0 (w12.heap[gb011]? = some (.cells #[.string (⟨#[]⟩ : ByteArray), .slice none 0 0, .int .i64 0, .slice none 0 0, .slice none 0 0] 44 (0, 0))) := ⟨h3_⟩
     have n4_ : Aside0 (w.heap.size ≤ gb011) := ⟨h4_⟩
     have n5_ : Aside0 (w.heap.size ≤ gb011) := ⟨h5_⟩
     have n6_ : Aside0 (Below w.heap.size w w12) := ⟨h6_⟩
     clear HO_3
     clear HB
     clear h0_ h1_ h2_ h3_ h4_ h5_ h6_
     have HO006 := n0_
     have HO010 := n1_
     have HO_3 := n2_
     have BK011 := n3_
     have GW011 := n4_
     have GE011 := n5_
     have HB := n6_
     clear n0_ n1_ n2_ n3_ n4_ n5_ n6_
     have hHeld : w12.cell? (ad001.add ((x4_1).toNat * 5)) = some (.string ((rd_T44 l0 x4_1).f0)) ∧ w12.cell? ⟨(ad001.add ((x4_1).toNat * 5)).block, (ad001.add ((x4_1).toNat * 5)).off + 1, none⟩ = some (.slice A001_1 ((rd_T44 l0 x4_1).f1).length c001_1) ∧ w12.cell? ⟨(ad001.add ((x4_1).toNat * 5)).block, (ad001.add ((x4_1).toNat * 5)).off + 2, none⟩ = some (.int .i64 ((rd_T44 l0 x4_1).f2)) ∧ w12.cell? ⟨(ad001.add ((x4_1).toNat * 5)).block, (ad001.add ((x4_1).toNat * 5)).off + 3, none⟩ = some (.slice A001_3 ((rd_T44 l0 x4_1).f3).length c001_3) ∧ w12.cell? ⟨(ad001.add ((x4_1).toNat * 5)).block, (ad001.add ((x4_1).toNat * 5)).off + 4, none⟩ = some (.slice A001_4 ((rd_T44 l0 x4_1).f4).length c001_4) ∧ w12.cell? (ad001.add ((x4_1).toNat * 5)) = some (.string ((rd_T44 l0 x4_1).f0)) ∧ w12.cell? ⟨(ad001.add ((x4_1).toNat * 5)).block, (ad001.add ((x4_1).toNat * 5)).off + 1, none⟩ = some (.slice A001_1 ((rd_T44 l0 x4_1).f1).length c001_1) ∧ w12.cell? ⟨(ad001.add ((x4_1).toNat * 5)).block, (ad001.add ((x4_1).toNat * 5)).off + 2, none⟩ = some (.int .i64 ((rd_T44 l0 x4_1).f2)) ∧ w12.cell? ⟨(ad001.add ((x4_1).toNat * 5)).block, (ad001.add ((x4_1).toNat * 5)).off + 3, none⟩ = some (.slice A001_3 ((rd_T44 l0 x4_1).f3).length c001_3) ∧ w12.cell? ⟨(ad001.add ((x4_1).toNat * 5)).block, (ad001.add ((x4_1).toNat * 5)).off + 4, none⟩ = some (.slice A001_4 ((rd_T44 l0 x4_1).f4).length c001_4) ∧ w12.cell? (ad001.add ((x4_1).toNat * 5)) = some (.string ((rd_T44 l0 x4_1).f0)) ∧ w12.cell? ⟨(ad001.add ((x4_1).toNat * 5)).block, (ad001.add ((x4_1).toNat * 5)).off + 1, none⟩ = some (.slice A001_1 ((rd_T44 l0 x4_1).f1).length c001_1) ∧ w12.cell? ⟨(ad001.add ((x4_1).toNat * 5)).block, (ad001.add ((x4_1).toNat * 5)).off + 2, none⟩ = some (.int .i64 ((rd_T44 l0 x4_1).f2)) ∧ w12.cell? ⟨(ad001.add ((x4_1).toNat * 5)).block, (ad001.add ((x4_1).toNat * 5)).off + 3, none⟩ = some (.slice A001_3 ((rd_T44 l0 x4_1).f3).length c001_3) ∧ w12.cell? ⟨(ad001.add ((x4_1).toNat * 5)).block, (ad001.add ((x4_1).toNat * 5)).off + 4, none⟩ = some (.slice A001_4 ((rd_T44 l0 x4_1).f4).length c001_4) ∧ w12.cell? (ad001.add ((x4_1).toNat * 5)) = some (.string ((rd_T44 l0 x4_1).f0)) ∧ w12.cell? ⟨(ad001.add ((x4_1).toNat * 5)).block, (ad001.add ((x4_1).toNat * 5)).off + 1, none⟩ = some (.slice A001_1 ((rd_T44 l0 x4_1).f1).length c001_1) ∧ w12.cell? ⟨(ad001.add ((x4_1).toNat * 5)).block, (ad001.add ((x4_1).toNat * 5)).off + 2, none⟩ = some (.int .i64 ((rd_T44 l0 x4_1).f2)) ∧ w12.cell? ⟨(ad001.add ((x4_1).toNat * 5)).block, (ad001.add ((x4_1).toNat * 5)).off + 3, none⟩ = some (.slice A001_3 ((rd_T44 l0 x4_1).f3).length c001_3) ∧ w12.cell? ⟨(ad001.add ((x4_1).toNat * 5)).block, (ad001.add ((x4_1).toNat * 5)).off + 4, none⟩ = some (.slice A001_4 ((rd_T44 l0 x4_1).f4).length c001_4) := hS_
     obtain ⟨Ao13, co13, eo13⟩ := Kd.R_slice HO010.out
     (first | subst eo13 | (injection eo13 with f1_ f2_ f3_; have f4_ := f1_.symm; have f5_ := f3_.symm; clear f1_ f2_ f3_; subst f4_; subst f5_))
     obtain ⟨Ao14, co14, eo14⟩ := Kd.R_slice HO006.out
     (first | subst eo14 | (injection eo14 with f1_ f2_ f3_; have f4_ := f1_.symm; have f5_ := f3_.symm; clear f1_ f2_ f3_; subst f4_; subst f5_))
     refine norm_ (a' := ?_) ?_ ?_
     rotate_left
     ·simp only [putAll, Act.put, List.setIfInBounds_toArray, List.set_cons_zero, List.set_cons_succ]
      rfl
     refine one_ (i := 24) (N := none) #[true, true, true, true, true, true, true, true, true, true, true, true, true, true, true, true, true, true, true, true, true, true, true, true, true] rfl rfl (one_of HT_.out (by kernel_rfl)) (by decide) (fun K hK => ?_)
     have hs15 : w12.cell? ⟨gb011, 0, none⟩ = some (.string (⟨#[]⟩ : ByteArray)) := (blk_cell BK011.out 0).trans rfl
     have hfs15 := blk_frozen BK011.out 0
     have hs16 : w12.cell? ⟨gb011, 1, none⟩ = some (.slice none 0 0) := (blk_cell BK011.out 1).trans rfl
     have hfs16 := blk_frozen BK011.out 1
     have hs17 : w12.cell? ⟨gb011, 2, none⟩ = some (.int .i64 0) := (blk_cell BK011.out 2).trans rfl
     have hfs17 := blk_frozen BK011.out 2
     have hs18 : w12.cell? ⟨gb011, 3, none⟩ = some (.slice none 0 0) := (blk_cell BK011.out 3).trans rfl
     have hfs18 := blk_frozen BK011.out 3
     have hs19 : w12.cell? ⟨gb011, 4, none⟩ = some (.slice none 0 0) := (blk_cell BK011.out 4).trans rfl
     have hfs19 := blk_frozen BK011.out 4
     refine skip_ (w1 := ?_) (by rfl) rfl ?_ ?_
     rotate_left
     ·go_simp
      rfl
     refine hK.out _ _ ⟨((cell_far (p := ⟨gb011, _, none⟩) (by first | exact Nat.ne_of_lt (Nat.lt_of_lt_of_le (by have := World.block_lt_of_cell? _ _ hw001_0; first | rwa [add_block] at this | exact this) GW011.out) | (rw [add_block]; exact Nat.ne_of_lt (Nat.lt_of_lt_of_le (by have := World.block_lt_of_cell? _ _ hw001_0; first | rwa [add_block] at this | exact this) GW011.out)) | (show (Addr.add _ _).block ≠ _; rw [add_block]; exact Nat.ne_of_lt (Nat.lt_of_lt_of_le (by have := World.block_lt_of_cell? _ _ hw001_0; first | rwa [add_block] at this | exact this) GW011.out)) | (dsimp only; exact Nat.ne_of_lt (Nat.lt_of_lt_of_le (by have := World.block_lt_of_cell? _ _ hw001_0; first | rwa [add_block] at this | exact this) GW011.out))) _).trans (((cell_far (p := ⟨gb011, _, none⟩) (by first | exact Nat.ne_of_lt (Nat.lt_of_lt_of_le (by have := World.block_lt_of_cell? _ _ hw001_0; first | rwa [add_block] at this | exact this) GW011.out) | (rw [add_block]; exact Nat.ne_of_lt (Nat.lt_of_lt_of_le (by have := World.block_lt_of_cell? _ _ hw001_0; first | rwa [add_block] at this | exact this) GW011.out)) | (show (Addr.add _ _).block ≠ _; rw [add_block]; exact Nat.ne_of_lt (Nat.lt_of_lt_of_le (by have := World.block_lt_of_cell? _ _ hw001_0; first | rwa [add_block] at this | exact this) GW011.out)) | (dsimp only; exact Nat.ne_of_lt (Nat.lt_of_lt_of_le (by have := World.block_lt_of_cell? _ _ hw001_0; first | rwa [add_block] at this | exact this) GW011.out))) _).trans (((cell_far (p := ⟨gb011, _, none⟩) (by first | exact Nat.ne_of_lt (Nat.lt_of_lt_of_le (by have := World.block_lt_of_cell? _ _ hw001_0; first | rwa [add_block] at this | exact this) GW011.out) | (rw [add_block]; exact Nat.ne_of_lt (Nat.lt_of_lt_of_le (by have := World.block_lt_of_cell? _ _ hw001_0; first | rwa [add_block] at this | exact this) GW011.out)) | (show (Addr.add _ _).block ≠ _; rw [add_block]; exact Nat.ne_of_lt (Nat.lt_of_lt_of_le (by have := World.block_lt_of_cell? _ _ hw001_0; first | rwa [add_block] at this | exact this) GW011.out)) | (dsimp only; exact Nat.ne_of_lt (Nat.lt_of_lt_of_le (by have := World.block_lt_of_cell? _ _ hw001_0; first | rwa [add_block] at this | exact this) GW011.out))) _).trans (((cell_far (p := ⟨gb011, _, none⟩) (by first | exact Nat.ne_of_lt (Nat.lt_of_lt_of_le (by have := World.block_lt_of_cell? _ _ hw001_0; first | rwa [add_block] at this | exact this) GW011.out) | (rw [add_block]; exact Nat.ne_of_lt (Nat.lt_of_lt_of_le (by have := World.block_lt_of_cell? _ _ hw001_0; first | rwa [add_block] at this | exact this) GW011.out)) | (show (Addr.add _ _).block ≠ _; rw [add_block]; exact Nat.ne_of_lt (Nat.lt_of_lt_of_le (by have := World.block_lt_of_cell? _ _ hw001_0; first | rwa [add_block] at this | exact this) GW011.out)) | (dsimp only; exact Nat.ne_of_lt (Nat.lt_of_lt_of_le (by have := World.block_lt_of_cell? _ _ hw001_0; first | rwa [add_block] at this | exact this) GW011.out))) _).trans (((cell_far (p := ⟨gb011, _, none⟩) (by first | exact Nat.ne_of_lt (Nat.lt_of_lt_of_le (by have := World.block_lt_of_cell? _ _ hw001_0; first | rwa [add_block] at this | exact this) GW011.out) | (rw [add_block]; exact Nat.ne_of_lt (Nat.lt_of_lt_of_le (by have := World.block_lt_of_cell? _ _ hw001_0; first | rwa [add_block] at this | exact this) GW011.out)) | (show (Addr.add _ _).block ≠ _; rw [add_block]; exact Nat.ne_of_lt (Nat.lt_of_lt_of_le (by have := World.block_lt_of_cell? _ _ hw001_0; first | rwa [add_block] at this | exact this) GW011.out)) | (dsimp only; exact Nat.ne_of_lt (Nat.lt_of_lt_of_le (by have := World.block_lt_of_cell? _ _ hw001_0; first | rwa [add_block] at this | exact this) GW011.out))) _).trans (hHeld.1)))))))))), ((cell_far (p := ⟨gb011, _, none⟩) (by first | exact Nat.ne_of_lt (Nat.lt_of_lt_of_le (by have := World.block_lt_of_cell? _ _ hw001_1; first | rwa [add_block] at this | exact this) GW011.out) | (rw [add_block]; exact Nat.ne_of_lt (Nat.lt_of_lt_of_le (by have := World.block_lt_of_cell? _ _ hw001_1; first | rwa [add_block] at this | exact this) GW011.out)) | (show (Addr.add _ _).block ≠ _; rw [add_block]; exact Nat.ne_of_lt (Nat.lt_of_lt_of_le (by have := World.block_lt_of_cell? _ _ hw001_1; first | rwa [add_block] at this | exact this) GW011.out)) | (dsimp only; exact Nat.ne_of_lt (Nat.lt_of_lt_of_le (by have := World.block_lt_of_cell? _ _ hw001_1; first | rwa [add_block] at this | exact this) GW011.out))) _).trans (((cell_far (p := ⟨gb011, _, none⟩) (by first | exact Nat.ne_of_lt (Nat.lt_of_lt_of_le (by have := World.block_lt_of_cell? _ _ hw001_1; first | rwa [add_block] at this | exact this) GW011.out) | (rw [add_block]; exact Nat.ne_of_lt (Nat.lt_of_lt_of_le (by have := World.block_lt_of_cell? _ _ hw001_1; first | rwa [add_block] at this | exact this) GW011.out)) | (show (Addr.add _ _).block ≠ _; rw [add_block]; exact Nat.ne_of_lt (Nat.lt_of_lt_of_le (by have := World.block_lt_of_cell? _ _ hw001_1; first | rwa [add_block] at this | exact this) GW011.out)) | (dsimp only; exact Nat.ne_of_lt (Nat.lt_of_lt_of_le (by have := World.block_lt_of_cell? _ _ hw001_1; first | rwa [add_block] at this | exact this) GW011.out))) _).trans (((cell_far (p := ⟨gb011, _, none⟩) (by first | exact Nat.ne_of_lt (Nat.lt_of_lt_of_le (by have := World.block_lt_of_cell? _ _ hw001_1; first | rwa [add_block] at this | exact this) GW011.out) | (rw [add_block]; exact Nat.ne_of_lt (Nat.lt_of_lt_of_le (by have := World.block_lt_of_cell? _ _ hw001_1; first | rwa [add_block] at this | exact this) GW011.out)) | (show (Addr.add _ _).block ≠ _; rw [add_block]; exact Nat.ne_of_lt (Nat.lt_of_lt_of_le (by have := World.block_lt_of_cell? _ _ hw001_1; first | rwa [add_block] at this | exact this) GW011.out)) | (dsimp only; exact Nat.ne_of_lt (Nat.lt_of_lt_of_le (by have := World.block_lt_of_cell? _ _ hw001_1; first | rwa [add_block] at this | exact this) GW011.out))) _).trans (((cell_far (p := ⟨gb011, _, none⟩) (by first | exact Nat.ne_of_lt (Nat.lt_of_lt_of_le (by have := World.block_lt_of_cell? _ _ hw001_1; first | rwa [add_block] at this | exact this) GW011.out) | (rw [add_block]; exact Nat.ne_of_lt (Nat.lt_of_lt_of_le (by have := World.block_lt_of_cell? _ _ hw001_1; first | rwa [add_block] at this | exact this) GW011.out)) | (show (Addr.add _ _).block ≠ _; rw [add_block]; exact Nat.ne_of_lt (Nat.lt_of_lt_of_le (by have := World.block_lt_of_cell? _ _ hw001_1; first | rwa [add_block] at this | exact this) GW011.out)) | (dsimp only; exact Nat.ne_of_lt (Nat.lt_of_lt_of_le (by have := World.block_lt_of_cell? _ _ hw001_1; first | rwa [add_block] at this | exact this) GW011.out))) _).trans (((cell_far (p := ⟨gb011, _, none⟩) (by first | exact Nat.ne_of_lt (Nat.lt_of_lt_of_le (by have := World.block_lt_of_cell? _ _ hw001_1; first | rwa [add_block] at this | exact this) GW011.out) | (rw [add_block]; exact Nat.ne_of_lt (Nat.lt_of_lt_of_le (by have := World.block_lt_of_cell? _ _ hw001_1; first | rwa [add_block] at this | exact this) GW011.out)) | (show (Addr.add _ _).block ≠ _; rw [add_block]; exact Nat.ne_of_lt (Nat.lt_of_lt_of_le (by have := World.block_lt_of_cell? _ _ hw001_1; first | rwa [add_block] at this | exact this) GW011.out)) | (dsimp only; exact Nat.ne_of_lt (Nat.lt_of_lt_of_le (by have := World.block_lt_of_cell? _ _ hw001_1; first | rwa [add_block] at this | exact this) GW011.out))) _).trans (hHeld.2.1)))))))))), ((cell_far (p := ⟨gb011, _, none⟩) (by first | exact Nat.ne_of_lt (Nat.lt_of_lt_of_le (by have := World.block_lt_of_cell? _ _ hw001_2; first | rwa [add_block] at this | exact this) GW011.out) | (rw [add_block]; exact Nat.ne_of_lt (Nat.lt_of_lt_of_le (by have := World.block_lt_of_cell? _ _ hw001_2; first | rwa [add_block] at this | exact this) GW011.out)) | (show (Addr.add _ _).block ≠ _; rw [add_block]; exact Nat.ne_of_lt (Nat.lt_of_lt_of_le (by have := World.block_lt_of_cell? _ _ hw001_2; first | rwa [add_block] at this | exact this) GW011.out)) | (dsimp only; exact Nat.ne_of_lt (Nat.lt_of_lt_of_le (by have := World.block_lt_of_cell? _ _ hw001_2; first | rwa [add_block] at this | exact this) GW011.out))) _).trans (((cell_far (p := ⟨gb011, _, none⟩) (by first | exact Nat.ne_of_lt (Nat.lt_of_lt_of_le (by have := World.block_lt_of_cell? _ _ hw001_2; first | rwa [add_block] at this | exact this) GW011.out) | (rw [add_block]; exact Nat.ne_of_lt (Nat.lt_of_lt_of_le (by have := World.block_lt_of_cell? _ _ hw001_2; first | rwa [add_block] at this | exact this) GW011.out)) | (show (Addr.add _ _).block ≠ _; rw [add_block]; exact Nat.ne_of_lt (Nat.lt_of_lt_of_le (by have := World.block_lt_of_cell? _ _ hw001_2; first | rwa [add_block] at this | exact this) GW011.out)) | (dsimp only; exact Nat.ne_of_lt (Nat.lt_of_lt_of_le (by have := World.block_lt_of_cell? _ _ hw001_2; first | rwa [add_block] at this | exact this) GW011.out))) _).trans (((cell_far (p := ⟨gb011, _, none⟩) (by first | exact Nat.ne_of_lt (Nat.lt_of_lt_of_le (by have := World.block_lt_of_cell? _ _ hw001_2; first | rwa [add_block] at this | exact this) GW011.out) | (rw [add_block]; exact Nat.ne_of_lt (Nat.lt_of_lt_of_le (by have := World.block_lt_of_cell? _ _ hw001_2; first | rwa [add_block] at this | exact this) GW011.out)) | (show (Addr.add _ _).block ≠ _; rw [add_block]; exact Nat.ne_of_lt (Nat.lt_of_lt_of_le (by have := World.block_lt_of_cell? _ _ hw001_2; first | rwa [add_block] at this | exact this) GW011.out)) | (dsimp only; exact Nat.ne_of_lt (Nat.lt_of_lt_of_le (by have := World.block_lt_of_cell? _ _ hw001_2; first | rwa [add_block] at this | exact this) GW011.out))) _).trans (((cell_far (p := ⟨gb011, _, none⟩) (by first | exact Nat.ne_of_lt (Nat.lt_of_lt_of_le (by have := World.block_lt_of_cell? _ _ hw001_2; first | rwa [add_block] at this | exact this) GW011.out) | (rw [add_block]; exact Nat.ne_of_lt (Nat.lt_of_lt_of_le (by have := World.block_lt_of_cell? _ _ hw001_2; first | rwa [add_block] at this | exact this) GW011.out)) | (show (Addr.add _ _).block ≠ _; rw [add_block]; exact Nat.ne_of_lt (Nat.lt_of_lt_of_le (by have := World.block_lt_of_cell? _ _ hw001_2; first | rwa [add_block] at this | exact this) GW011.out)) | (dsimp only; exact Nat.ne_of_lt (Nat.lt_of_lt_of_le (by have := World.block_lt_of_cell? _ _ hw001_2; first | rwa [add_block] at this | exact this) GW011.out))) _).trans (((cell_far (p := ⟨gb011, _, none⟩) (by first | exact Nat.ne_of_lt (Nat.lt_of_lt_of_le (by have := World.block_lt_of_cell? _ _ hw001_2; first | rwa [add_block] at this | exact this) GW011.out) | (rw [add_block]; exact Nat.ne_of_lt (Nat.lt_of_lt_of_le (by have := World.block_lt_of_cell? _ _ hw001_2; first | rwa [add_block] at this | exact this) GW011.out)) | (show (Addr.add _ _).block ≠ _; rw [add_block]; exact Nat.ne_of_lt (Nat.lt_of_lt_of_le (by have := World.block_lt_of_cell? _ _ hw001_2; first | rwa [add_block] at this | exact this) GW011.out)) | (dsimp only; exact Nat.ne_of_lt (Nat.lt_of_lt_of_le (by have := World.block_lt_of_cell? _ _ hw001_2; first | rwa [add_block] at this | exact this) GW011.out))) _).trans (hHeld.2.2.1)))))))))), ((cell_far (p := ⟨gb011, _, none⟩) (by first | exact Nat.ne_of_lt (Nat.lt_of_lt_of_le (by have := World.block_lt_of_cell? _ _ hw001_3; first | rwa [add_block] at this | exact this) GW011.out) | (rw [add_block]; exact Nat.ne_of_lt (Nat.lt_of_lt_of_le (by have := World.block_lt_of_cell? _ _ hw001_3; first | rwa [add_block] at this | exact this) GW011.out)) | (show (Addr.add _ _).block ≠ _; rw [add_block]; exact Nat.ne_of_lt (Nat.lt_of_lt_of_le (by have := World.block_lt_of_cell? _ _ hw001_3; first | rwa [add_block] at this | exact this) GW011.out)) | (dsimp only; exact Nat.ne_of_lt (Nat.lt_of_lt_of_le (by have := World.block_lt_of_cell? _ _ hw001_3; first | rwa [add_block] at this | exact this) GW011.out))) _).trans (((cell_far (p := ⟨gb011, _, none⟩) (by first | exact Nat.ne_of_lt (Nat.lt_of_lt_of_le (by have := World.block_lt_of_cell? _ _ hw001_3; first | rwa [add_block] at this | exact this) GW011.out) | (rw [add_block]; exact Nat.ne_of_lt (Nat.lt_of_lt_of_le (by have := World.block_lt_of_cell? _ _ hw001_3; first | rwa [add_block] at this | exact this) GW011.out)) | (show (Addr.add _ _).block ≠ _; rw [add_block]; exact Nat.ne_of_lt (Nat.lt_of_lt_of_le (by have := World.block_lt_of_cell? _ _ hw001_3; first | rwa [add_block] at this | exact this) GW011.out)) | (dsimp only; exact Nat.ne_of_lt (Nat.lt_of_lt_of_le (by have := World.block_lt_of_cell? _ _ hw001_3; first | rwa [add_block] at this | exact this) GW011.out))) _).trans (((cell_far (p := ⟨gb011, _, none⟩) (by first | exact Nat.ne_of_lt (Nat.lt_of_lt_of_le (by have := World.block_lt_of_cell? _ _ hw001_3; first | rwa [add_block] at this | exact this) GW011.out) | (rw [add_block]; exact Nat.ne_of_lt (Nat.lt_of_lt_of_le (by have := World.block_lt_of_cell? _ _ hw001_3; first | rwa [add_block] at this | exact this) GW011.out)) | (show (Addr.add _ _).block ≠ _; rw [add_block]; exact Nat.ne_of_lt (Nat.lt_of_lt_of_le (by have := World.block_lt_of_cell? _ _ hw001_3; first | rwa [add_block] at this | exact this) GW011.out)) | (dsimp only; exact Nat.ne_of_lt (Nat.lt_of_lt_of_le (by have := World.block_lt_of_cell? _ _ hw001_3; first | rwa [add_block] at this | exact this) GW011.out))) _).trans (((cell_far (p := ⟨gb011, _, none⟩) (by first | exact Nat.ne_of_lt (Nat.lt_of_lt_of_le (by have := World.block_lt_of_cell? _ _ hw001_3; first | rwa [add_block] at this | exact this) GW011.out) | (rw [add_block]; exact Nat.ne_of_lt (Nat.lt_of_lt_of_le (by have := World.block_lt_of_cell? _ _ hw001_3; first | rwa [add_block] at this | exact this) GW011.out)) | (show (Addr.add _ _).block ≠ _; rw [add_block]; exact Nat.ne_of_lt (Nat.lt_of_lt_of_le (by have := World.block_lt_of_cell? _ _ hw001_3; first | rwa [add_block] at this | exact this) GW011.out)) | (dsimp only; exact Nat.ne_of_lt (Nat.lt_of_lt_of_le (by have := World.block_lt_of_cell? _ _ hw001_3; first | rwa [add_block] at this | exact this) GW011.out))) _).trans (((cell_far (p := ⟨gb011, _, none⟩) (by first | exact Nat.ne_of_lt (Nat.lt_of_lt_of_le (by have := World.block_lt_of_cell? _ _ hw001_3; first | rwa [add_block] at this | exact this) GW011.out) | (rw [add_block]; exact Nat.ne_of_lt (Nat.lt_of_lt_of_le (by have := World.block_lt_of_cell? _ _ hw001_3; first | rwa [add_block] at this | exact this) GW011.out)) | (show (Addr.add _ _).block ≠ _; rw [add_block]; exact Nat.ne_of_lt (Nat.lt_of_lt_of_le (by have := World.block_lt_of_cell? _ _ hw001_3; first | rwa [add_block] at this | exact this) GW011.out)) | (dsimp only; exact Nat.ne_of_lt (Nat.lt_of_lt_of_le (by have := World.block_lt_of_cell? _ _ hw001_3; first | rwa [add_block] at this | exact this) GW011.out))) _).trans (hHeld.2.2.2.1)))))))))), ((cell_far (p := ⟨gb011, _, none⟩) (by first | exact Nat.ne_of_lt (Nat.lt_of_lt_of_le (by have := World.block_lt_of_cell? _ _ hw001_4; first | rwa [add_block] at this | exact this) GW011.out) | (rw [add_block]; exact Nat.ne_of_lt (Nat.lt_of_lt_of_le (by have := World.block_lt_of_cell? _ _ hw001_4; first | rwa [add_block] at this | exact this) GW011.out)) | (show (Addr.add _ _).block ≠ _; rw [add_block]; exact Nat.ne_of_lt (Nat.lt_of_lt_of_le (by have := World.block_lt_of_cell? _ _ hw001_4; first | rwa [add_block] at this | exact this) GW011.out)) | (dsimp only; exact Nat.ne_of_lt (Nat.lt_of_lt_of_le (by have := World.block_lt_of_cell? _ _ hw001_4; first | rwa [add_block] at this | exact this) GW011.out))) _).trans (((cell_far (p := ⟨gb011, _, none⟩) (by first | exact Nat.ne_of_lt (Nat.lt_of_lt_of_le (by have := World.block_lt_of_cell? _ _ hw001_4; first | rwa [add_block] at this | exact this) GW011.out) | (rw [add_block]; exact Nat.ne_of_lt (Nat.lt_of_lt_of_le (by have := World.block_lt_of_cell? _ _ hw001_4; first | rwa [add_block] at this | exact this) GW011.out)) | (show (Addr.add _ _).block ≠ _; rw [add_block]; exact Nat.ne_of_lt (Nat.lt_of_lt_of_le (by have := World.block_lt_of_cell? _ _ hw001_4; first | rwa [add_block] at this | exact this) GW011.out)) | (dsimp only; exact Nat.ne_of_lt (Nat.lt_of_lt_of_le (by have := World.block_lt_of_cell? _ _ hw001_4; first | rwa [add_block] at this | exact this) GW011.out))) _).trans (((cell_far (p := ⟨gb011, _, none⟩) (by first | exact Nat.ne_of_lt (Nat.lt_of_lt_of_le (by have := World.block_lt_of_cell? _ _ hw001_4; first | rwa [add_block] at this | exact this) GW011.out) | (rw [add_block]; exact Nat.ne_of_lt (Nat.lt_of_lt_of_le (by have := World.block_lt_of_cell? _ _ hw001_4; first | rwa [add_block] at this | exact this) GW011.out)) | (show (Addr.add _ _).block ≠ _; rw [add_block]; exact Nat.ne_of_lt (Nat.lt_of_lt_of_le (by have := World.block_lt_of_cell? _ _ hw001_4; first | rwa [add_block] at this | exact this) GW011.out)) | (dsimp only; exact Nat.ne_of_lt (Nat.lt_of_lt_of_le (by have := World.block_lt_of_cell? _ _ hw001_4; first | rwa [add_block] at this | exact this) GW011.out))) _).trans (((cell_far (p := ⟨gb011, _, none⟩) (by first | exact Nat.ne_of_lt (Nat.lt_of_lt_of_le (by have := World.block_lt_of_cell? _ _ hw001_4; first | rwa [add_block] at this | exact this) GW011.out) | (rw [add_block]; exact Nat.ne_of_lt (Nat.lt_of_lt_of_le (by have := World.block_lt_of_cell? _ _ hw001_4; first | rwa [add_block] at this | exact this) GW011.out)) | (show (Addr.add _ _).block ≠ _; rw [add_block]; exact Nat.ne_of_lt (Nat.lt_of_lt_of_le (by have := World.block_lt_of_cell? _ _ hw001_4; first | rwa [add_block] at this | exact this) GW011.out)) | (dsimp only; exact Nat.ne_of_lt (Nat.lt_of_lt_of_le (by have := World.block_lt_of_cell? _ _ hw001_4; first | rwa [add_block] at this | exact this) GW011.out))) _).trans (((cell_far (p := ⟨gb011, _, none⟩) (by first | exact Nat.ne_of_lt (Nat.lt_of_lt_of_le (by have := World.block_lt_of_cell? _ _ hw001_4; first | rwa [add_block] at this | exact this) GW011.out) | (rw [add_block]; exact Nat.ne_of_lt (Nat.lt_of_lt_of_le (by have := World.block_lt_of_cell? _ _ hw001_4; first | rwa [add_block] at this | exact this) GW011.out)) | (show (Addr.add _ _).block ≠ _; rw [add_block]; exact Nat.ne_of_lt (Nat.lt_of_lt_of_le (by have := World.block_lt_of_cell? _ _ hw001_4; first | rwa [add_block] at this | exact this) GW011.out)) | (dsimp only; exact Nat.ne_of_lt (Nat.lt_of_lt_of_le (by have := World.block_lt_of_cell? _ _ hw001_4; first | rwa [add_block] at this | exact this) GW011.out))) _).trans (hHeld.2.2.2.2.1)))))))))), ((cell_far (p := ⟨gb011, _, none⟩) (by first | exact Nat.ne_of_lt (Nat.lt_of_lt_of_le (by have := World.block_lt_of_cell? _ _ hw002_0; first | rwa [add_block] at this | exact this) GW011.out) | (rw [add_block]; exact Nat.ne_of_lt (Nat.lt_of_lt_of_le (by have := World.block_lt_of_cell? _ _ hw002_0; first | rwa [add_block] at this | exact this) GW011.out)) | (show (Addr.add _ _).block ≠ _; rw [add_block]; exact Nat.ne_of_lt (Nat.lt_of_lt_of_le (by have := World.block_lt_of_cell? _ _ hw002_0; first | rwa [add_block] at this | exact this) GW011.out)) | (dsimp only; exact Nat.ne_of_lt (Nat.lt_of_lt_of_le (by have := World.block_lt_of_cell? _ _ hw002_0; first | rwa [add_block] at this | exact this) GW011.out))) _).trans (((cell_far (p := ⟨gb011, _, none⟩) (by first | exact Nat.ne_of_lt (Nat.lt_of_lt_of_le (by have := World.block_lt_of_cell? _ _ hw002_0; first | rwa [add_block] at this | exact this) GW011.out) | (rw [add_block]; exact Nat.ne_of_lt (Nat.lt_of_lt_of_le (by have := World.block_lt_of_cell? _ _ hw002_0; first | rwa [add_block] at this | exact this) GW011.out)) | (show (Addr.add _ _).block ≠ _; rw [add_block]; exact Nat.ne_of_lt (Nat.lt_of_lt_of_le (by have := World.block_lt_of_cell? _ _ hw002_0; first | rwa [add_block] at this | exact this) GW011.out)) | (dsimp only; exact Nat.ne_of_lt (Nat.lt_of_lt_of_le (by have := World.block_lt_of_cell? _ _ hw002_0; first | rwa [add_block] at this | exact this) GW011.out))) _).trans (((cell_far (p := ⟨gb011, _, none⟩) (by first | exact Nat.ne_of_lt (Nat.lt_of_lt_of_le (by have := World.block_lt_of_cell? _ _ hw002_0; first | rwa [add_block] at this | exact this) GW011.out) | (rw [add_block]; exact Nat.ne_of_lt (Nat.lt_of_lt_of_le (by have := World.block_lt_of_cell? _ _ hw002_0; first | rwa [add_block] at this | exact this) GW011.out)) | (show (Addr.add _ _).block ≠ _; rw [add_block]; exact Nat.ne_of_lt (Nat.lt_of_lt_of_le (by have := World.block_lt_of_cell? _ _ hw002_0; first | rwa [add_block] at this | exact this) GW011.out)) | (dsimp only; exact Nat.ne_of_lt (Nat.lt_of_lt_of_le (by have := World.block_lt_of_cell? _ _ hw002_0; first | rwa [add_block] at this | exact this) GW011.out))) _).trans (((cell_far (p := ⟨gb011, _, none⟩) (by first | exact Nat.ne_of_lt (Nat.lt_of_lt_of_le (by have := World.block_lt_of_cell? _ _ hw002_0; first | rwa [add_block] at this | exact this) GW011.out) | (rw [add_block]; exact Nat.ne_of_lt (Nat.lt_of_lt_of_le (by have := World.block_lt_of_cell? _ _ hw002_0; first | rwa [add_block] at this | exact this) GW011.out)) | (show (Addr.add _ _).block ≠ _; rw [add_block]; exact Nat.ne_of_lt (Nat.lt_of_lt_of_le (by have := World.block_lt_of_cell? _ _ hw002_0; first | rwa [add_block] at this | exact this) GW011.out)) | (dsimp only; exact Nat.ne_of_lt (Nat.lt_of_lt_of_le (by have := World.block_lt_of_cell? _ _ hw002_0; first | rwa [add_block] at this | exact this) GW011.out))) _).trans (((cell_far (p := ⟨gb011, _, none⟩) (by first | exact Nat.ne_of_lt (Nat.lt_of_lt_of_le (by have := World.block_lt_of_cell? _ _ hw002_0; first | rwa [add_block] at this | exact this) GW011.out) | (rw [add_block]; exact Nat.ne_of_lt (Nat.lt_of_lt_of_le (by have := World.block_lt_of_cell? _ _ hw002_0; first | rwa [add_block] at this | exact this) GW011.out)) | (show (Addr.add _ _).block ≠ _; rw [add_block]; exact Nat.ne_of_lt (Nat.lt_of_lt_of_le (by have := World.block_lt_of_cell? _ _ hw002_0; first | rwa [add_block] at this | exact this) GW011.out)) | (dsimp only; exact Nat.ne_of_lt (Nat.lt_of_lt_of_le (by have := World.block_lt_of_cell? _ _ hw002_0; first | rwa [add_block] at this | exact this) GW011.out))) _).trans (hHeld.2.2.2.2.2.1)))))))))), ((cell_far (p := ⟨gb011, _, none⟩) (by first | exact Nat.ne_of_lt (Nat.lt_of_lt_of_le (by have := World.block_lt_of_cell? _ _ hw002_1; first | rwa [add_block] at this | exact this) GW011.out) | (rw [add_block]; exact Nat.ne_of_lt (Nat.lt_of_lt_of_le (by have := World.block_lt_of_cell? _ _ hw002_1; first | rwa [add_block] at this | exact this) GW011.out)) | (show (Addr.add _ _).block ≠ _; rw [add_block]; exact Nat.ne_of_lt (Nat.lt_of_lt_of_le (by have := World.block_lt_of_cell? _ _ hw002_1; first | rwa [add_block] at this | exact this) GW011.out)) | (dsimp only; exact Nat.ne_of_lt (Nat.lt_of_lt_of_le (by have := World.block_lt_of_cell? _ _ hw002_1; first | rwa [add_block] at this | exact this) GW011.out))) _).trans (((cell_far (p := ⟨gb011, _, none⟩) (by first | exact Nat.ne_of_lt (Nat.lt_of_lt_of_le (by have := World.block_lt_of_cell? _ _ hw002_1; first | rwa [add_block] at this | exact this) GW011.out) | (rw [add_block]; exact Nat.ne_of_lt (Nat.lt_of_lt_of_le (by have := World.block_lt_of_cell? _ _ hw002_1; first | rwa [add_block] at this | exact this) GW011.out)) | (show (Addr.add _ _).block ≠ _; rw [add_block]; exact Nat.ne_of_lt (Nat.lt_of_lt_of_le (by have := World.block_lt_of_cell? _ _ hw002_1; first | rwa [add_block] at this | exact this) GW011.out)) | (dsimp only; exact Nat.ne_of_lt (Nat.lt_of_lt_of_le (by have := World.block_lt_of_cell? _ _ hw002_1; first | rwa [add_block] at this | exact this) GW011.out))) _).trans (((cell_far (p := ⟨gb011, _, none⟩) (by first | exact Nat.ne_of_lt (Nat.lt_of_lt_of_le (by have := World.block_lt_of_cell? _ _ hw002_1; first | rwa [add_block] at this | exact this) GW011.out) | (rw [add_block]; exact Nat.ne_of_lt (Nat.lt_of_lt_of_le (by have := World.block_lt_of_cell? _ _ hw002_1; first | rwa [add_block] at this | exact this) GW011.out)) | (show (Addr.add _ _).block ≠ _; rw [add_block]; exact Nat.ne_of_lt (Nat.lt_of_lt_of_le (by have := World.block_lt_of_cell? _ _ hw002_1; first | rwa [add_block] at this | exact this) GW011.out)) | (dsimp only; exact Nat.ne_of_lt (Nat.lt_of_lt_of_le (by have := World.block_lt_of_cell? _ _ hw002_1; first | rwa [add_block] at this | exact this) GW011.out))) _).trans (((cell_far (p := ⟨gb011, _, none⟩) (by first | exact Nat.ne_of_lt (Nat.lt_of_lt_of_le (by have := World.block_lt_of_cell? _ _ hw002_1; first | rwa [add_block] at this | exact this) GW011.out) | (rw [add_block]; exact Nat.ne_of_lt (Nat.lt_of_lt_of_le (by have := World.block_lt_of_cell? _ _ hw002_1; first | rwa [add_block] at this | exact this) GW011.out)) | (show (Addr.add _ _).block ≠ _; rw [add_block]; exact Nat.ne_of_lt (Nat.lt_of_lt_of_le (by have := World.block_lt_of_cell? _ _ hw002_1; first | rwa [add_block] at this | exact this) GW011.out)) | (dsimp only; exact Nat.ne_of_lt (Nat.lt_of_lt_of_le (by have := World.block_lt_of_cell? _ _ hw002_1; first | rwa [add_block] at this | exact this) GW011.out))) _).trans (((cell_far (p := ⟨gb011, _, none⟩) (by first | exact Nat.ne_of_lt (Nat.lt_of_lt_of_le (by have := World.block_lt_of_cell? _ _ hw002_1; first | rwa [add_block] at this | exact this) GW011.out) | (rw [add_block]; exact Nat.ne_of_lt (Nat.lt_of_lt_of_le (by have := World.block_lt_of_cell? _ _ hw002_1; first | rwa [add_block] at this | exact this) GW011.out)) | (show (Addr.add _ _).block ≠ _; rw [add_block]; exact Nat.ne_of_lt (Nat.lt_of_lt_of_le (by have := World.block_lt_of_cell? _ _ hw002_1; first | rwa [add_block] at this | exact this) GW011.out)) | (dsimp only; exact Nat.ne_of_lt (Nat.lt_of_lt_of_le (by have := World.block_lt_of_cell? _ _ hw002_1; first | rwa [add_block] at this | exact this) GW011.out))) _).trans (hHeld.2.2.2.2.2.2.1)))))))))), ((cell_far (p := ⟨gb011, _, none⟩) (by first | exact Nat.ne_of_lt (Nat.lt_of_lt_of_le (by have := World.block_lt_of_cell? _ _ hw002_2; first | rwa [add_block] at this | exact this) GW011.out) | (rw [add_block]; exact Nat.ne_of_lt (Nat.lt_of_lt_of_le (by have := World.block_lt_of_cell? _ _ hw002_2; first | rwa [add_block] at this | exact this) GW011.out)) | (show (Addr.add _ _).block ≠ _; rw [add_block]; exact Nat.ne_of_lt (Nat.lt_of_lt_of_le (by have := World.block_lt_of_cell? _ _ hw002_2; first | rwa [add_block] at this | exact this) GW011.out)) | (dsimp only; exact Nat.ne_of_lt (Nat.lt_of_lt_of_le (by have := World.block_lt_of_cell? _ _ hw002_2; first | rwa [add_block] at this | exact this) GW011.out))) _).trans (((cell_far (p := ⟨gb011, _, none⟩) (by first | exact Nat.ne_of_lt (Nat.lt_of_lt_of_le (by have := World.block_lt_of_cell? _ _ hw002_2; first | rwa [add_block] at this | exact this) GW011.out) | (rw [add_block]; exact Nat.ne_of_lt (Nat.lt_of_lt_of_le (by have := World.block_lt_of_cell? _ _ hw002_2; first | rwa [add_block] at this | exact this) GW011.out)) | (show (Addr.add _ _).block ≠ _; rw [add_block]; exact Nat.ne_of_lt (Nat.lt_of_lt_of_le (by have := World.block_lt_of_cell? _ _ hw002_2; first | rwa [add_block] at this | exact this) GW011.out)) | (dsimp only; exact Nat.ne_of_lt (Nat.lt_of_lt_of_le (by have := World.block_lt_of_cell? _ _ hw002_2; first | rwa [add_block] at this | exact this) GW011.out))) _).trans (((cell_far (p := ⟨gb011, _, none⟩) (by first | exact Nat.ne_of_lt (Nat.lt_of_lt_of_le (by have := World.block_lt_of_cell? _ _ hw002_2; first | rwa [add_block] at this | exact this) GW011.out) | (rw [add_block]; exact Nat.ne_of_lt (Nat.lt_of_lt_of_le (by have := World.block_lt_of_cell? _ _ hw002_2; first | rwa [add_block] at this | exact this) GW011.out)) | (show (Addr.add _ _).block ≠ _; rw [add_block]; exact Nat.ne_of_lt (Nat.lt_of_lt_of_le (by have := World.block_lt_of_cell? _ _ hw002_2; first | rwa [add_block] at this | exact this) GW011.out)) | (dsimp only; exact Nat.ne_of_lt (Nat.lt_of_lt_of_le (by have := World.block_lt_of_cell? _ _ hw002_2; first | rwa [add_block] at this | exact this) GW011.out))) _).trans (((cell_far (p := ⟨gb011, _, none⟩) (by first | exact Nat.ne_of_lt (Nat.lt_of_lt_of_le (by have := World.block_lt_of_cell? _ _ hw002_2; first | rwa [add_block] at this | exact this) GW011.out) | (rw [add_block]; exact Nat.ne_of_lt (Nat.lt_of_lt_of_le (by have := World.block_lt_of_cell? _ _ hw002_2; first | rwa [add_block] at this | exact this) GW011.out)) | (show (Addr.add _ _).block ≠ _; rw [add_block]; exact Nat.ne_of_lt (Nat.lt_of_lt_of_le (by have := World.block_lt_of_cell? _ _ hw002_2; first | rwa [add_block] at this | exact this) GW011.out)) | (dsimp only; exact Nat.ne_of_lt (Nat.lt_of_lt_of_le (by have := World.block_lt_of_cell? _ _ hw002_2; first | rwa [add_block] at this | exact this) GW011.out))) _).trans (((cell_far (p := ⟨gb011, _, none⟩) (by first | exact Nat.ne_of_lt (Nat.lt_of_lt_of_le (by have := World.block_lt_of_cell? _ _ hw002_2; first | rwa [add_block] at this | exact this) GW011.out) | (rw [add_block]; exact Nat.ne_of_lt (Nat.lt_of_lt_of_le (by have := World.block_lt_of_cell? _ _ hw002_2; first | rwa [add_block] at this | exact this) GW011.out)) | (show (Addr.add _ _).block ≠ _; rw [add_block]; exact Nat.ne_of_lt (Nat.lt_of_lt_of_le (by have := World.block_lt_of_cell? _ _ hw002_2; first | rwa [add_block] at this | exact this) GW011.out)) | (dsimp only; exact Nat.ne_of_lt (Nat.lt_of_lt_of_le (by have := World.block_lt_of_cell? _ _ hw002_2; first | rwa [add_block] at this | exact this) GW011.out))) _).trans (hHeld.2.2.2.2.2.2.2.1)))))))))), ((cell_far (p := ⟨gb011, _, none⟩) (by first | exact Nat.ne_of_lt (Nat.lt_of_lt_of_le (by have := World.block_lt_of_cell? _ _ hw002_3; first | rwa [add_block] at this | exact this) GW011.out) | (rw [add_block]; exact Nat.ne_of_lt (Nat.lt_of_lt_of_le (by have := World.block_lt_of_cell? _ _ hw002_3; first | rwa [add_block] at this | exact this) GW011.out)) | (show (Addr.add _ _).block ≠ _; rw [add_block]; exact Nat.ne_of_lt (Nat.lt_of_lt_of_le (by have := World.block_lt_of_cell? _ _ hw002_3; first | rwa [add_block] at this | exact this) GW011.out)) | (dsimp only; exact Nat.ne_of_lt (Nat.lt_of_lt_of_le (by have := World.block_lt_of_cell? _ _ hw002_3; first | rwa [add_block] at this | exact this) GW011.out))) _).trans (((cell_far (p := ⟨gb011, _, none⟩) (by first | exact Nat.ne_of_lt (Nat.lt_of_lt_of_le (by have := World.block_lt_of_cell? _ _ hw002_3; first | rwa [add_block] at this | exact this) GW011.out) | (rw [add_block]; exact Nat.ne_of_lt (Nat.lt_of_lt_of_le (by have := World.block_lt_of_cell? _ _ hw002_3; first | rwa [add_block] at this | exact this) GW011.out)) | (show (Addr.add _ _).block ≠ _; rw [add_block]; exact Nat.ne_of_lt (Nat.lt_of_lt_of_le (by have := World.block_lt_of_cell? _ _ hw002_3; first | rwa [add_block] at this | exact this) GW011.out)) | (dsimp only; exact Nat.ne_of_lt (Nat.lt_of_lt_of_le (by have := World.block_lt_of_cell? _ _ hw002_3; first | rwa [add_block] at this | exact this) GW011.out))) _).trans (((cell_far (p := ⟨gb011, _, none⟩) (by first | exact Nat.ne_of_lt (Nat.lt_of_lt_of_le (by have := World.block_lt_of_cell? _ _ hw002_3; first | rwa [add_block] at this | exact this) GW011.out) | (rw [add_block]; exact Nat.ne_of_lt (Nat.lt_of_lt_of_le (by have := World.block_lt_of_cell? _ _ hw002_3; first | rwa [add_block] at this | exact this) GW011.out)) | (show (Addr.add _ _).block ≠ _; rw [add_block]; exact Nat.ne_of_lt (Nat.lt_of_lt_of_le (by have := World.block_lt_of_cell? _ _ hw002_3; first | rwa [add_block] at this | exact this) GW011.out)) | (dsimp only; exact Nat.ne_of_lt (Nat.lt_of_lt_of_le (by have := World.block_lt_of_cell? _ _ hw002_3; first | rwa [add_block] at this | exact this) GW011.out))) _).trans (((cell_far (p := ⟨gb011, _, none⟩) (by first | exact Nat.ne_of_lt (Nat.lt_of_lt_of_le (by have := World.block_lt_of_cell? _ _ hw002_3; first | rwa [add_block] at this | exact this) GW011.out) | (rw [add_block]; exact Nat.ne_of_lt (Nat.lt_of_lt_of_le (by have := World.block_lt_of_cell? _ _ hw002_3; first | rwa [add_block] at this | exact this) GW011.out)) | (show (Addr.add _ _).block ≠ _; rw [add_block]; exact Nat.ne_of_lt (Nat.lt_of_lt_of_le (by have := World.block_lt_of_cell? _ _ hw002_3; first | rwa [add_block] at this | exact this) GW011.out)) | (dsimp only; exact Nat.ne_of_lt (Nat.lt_of_lt_of_le (by have := World.block_lt_of_cell? _ _ hw002_3; first | rwa [add_block] at this | exact this) GW011.out))) _).trans (((cell_far (p := ⟨gb011, _, none⟩) (by first | exact Nat.ne_of_lt (Nat.lt_of_lt_of_le (by have := World.block_lt_of_cell? _ _ hw002_3; first | rwa [add_block] at this | exact this) GW011.out) | (rw [add_block]; exact Nat.ne_of_lt (Nat.lt_of_lt_of_le (by have := World.block_lt_of_cell? _ _ hw002_3; first | rwa [add_block] at this | exact this) GW011.out)) | (show (Addr.add _ _).block ≠ _; rw [add_block]; exact Nat.ne_of_lt (Nat.lt_of_lt_of_le (by have := World.block_lt_of_cell? _ _ hw002_3; first | rwa [add_block] at this | exact this) GW011.out)) | (dsimp only; exact Nat.ne_of_lt (Nat.lt_of_lt_of_le (by have := World.block_lt_of_cell? _ _ hw002_3; first | rwa [add_block] at this | exact this) GW011.out))) _).trans (hHeld.2.2.2.2.2.2.2.2.1)))))))))), ((cell_far (p := ⟨gb011, _, none⟩) (by first | exact Nat.ne_of_lt (Nat.lt_of_lt_of_le (by have := World.block_lt_of_cell? _ _ hw002_4; first | rwa [add_block] at this | exact this) GW011.out) | (rw [add_block]; exact Nat.ne_of_lt (Nat.lt_of_lt_of_le (by have := World.block_lt_of_cell? _ _ hw002_4; first | rwa [add_block] at this | exact this) GW011.out)) | (show (Addr.add _ _).block ≠ _; rw [add_block]; exact Nat.ne_of_lt (Nat.lt_of_lt_of_le (by have := World.block_lt_of_cell? _ _ hw002_4; first | rwa [add_block] at this | exact this) GW011.out)) | (dsimp only; exact Nat.ne_of_lt (Nat.lt_of_lt_of_le (by have := World.block_lt_of_cell? _ _ hw002_4; first | rwa [add_block] at this | exact this) GW011.out))) _).trans (((cell_far (p := ⟨gb011, _, none⟩) (by first | exact Nat.ne_of_lt (Nat.lt_of_lt_of_le (by have := World.block_lt_of_cell? _ _ hw002_4; first | rwa [add_block] at this | exact this) GW011.out) | (rw [add_block]; exact Nat.ne_of_lt (Nat.lt_of_lt_of_le (by have := World.block_lt_of_cell? _ _ hw002_4; first | rwa [add_block] at this | exact this) GW011.out)) | (show (Addr.add _ _).block ≠ _; rw [add_block]; exact Nat.ne_of_lt (Nat.lt_of_lt_of_le (by have := World.block_lt_of_cell? _ _ hw002_4; first | rwa [add_block] at this | exact this) GW011.out)) | (dsimp only; exact Nat.ne_of_lt (Nat.lt_of_lt_of_le (by have := World.block_lt_of_cell? _ _ hw002_4; first | rwa [add_block] at this | exact this) GW011.out))) _).trans (((cell_far (p := ⟨gb011, _, none⟩) (by first | exact Nat.ne_of_lt (Nat.lt_of_lt_of_le (by have := World.block_lt_of_cell? _ _ hw002_4; first | rwa [add_block] at this | exact this) GW011.out) | (rw [add_block]; exact Nat.ne_of_lt (Nat.lt_of_lt_of_le (by have := World.block_lt_of_cell? _ _ hw002_4; first | rwa [add_block] at this | exact this) GW011.out)) | (show (Addr.add _ _).block ≠ _; rw [add_block]; exact Nat.ne_of_lt (Nat.lt_of_lt_of_le (by have := World.block_lt_of_cell? _ _ hw002_4; first | rwa [add_block] at this | exact this) GW011.out)) | (dsimp only; exact Nat.ne_of_lt (Nat.lt_of_lt_of_le (by have := World.block_lt_of_cell? _ _ hw002_4; first | rwa [add_block] at this | exact this) GW011.out))) _).trans (((cell_far (p := ⟨gb011, _, none⟩) (by first | exact Nat.ne_of_lt (Nat.lt_of_lt_of_le (by have := World.block_lt_of_cell? _ _ hw002_4; first | rwa [add_block] at this | exact this) GW011.out) | (rw [add_block]; exact Nat.ne_of_lt (Nat.lt_of_lt_of_le (by have := World.block_lt_of_cell? _ _ hw002_4; first | rwa [add_block] at this | exact this) GW011.out)) | (show (Addr.add _ _).block ≠ _; rw [add_block]; exact Nat.ne_of_lt (Nat.lt_of_lt_of_le (by have := World.block_lt_of_cell? _ _ hw002_4; first | rwa [add_block] at this | exact this) GW011.out)) | (dsimp only; exact Nat.ne_of_lt (Nat.lt_of_lt_of_le (by have := World.block_lt_of_cell? _ _ hw002_4; first | rwa [add_block] at this | exact this) GW011.out))) _).trans (((cell_far (p := ⟨gb011, _, none⟩) (by first | exact Nat.ne_of_lt (Nat.lt_of_lt_of_le (by have := World.block_lt_of_cell? _ _ hw002_4; first | rwa [add_block] at this | exact this) GW011.out) | (rw [add_block]; exact Nat.ne_of_lt (Nat.lt_of_lt_of_le (by have := World.block_lt_of_cell? _ _ hw002_4; first | rwa [add_block] at this | exact this) GW011.out)) | (show (Addr.add _ _).block ≠ _; rw [add_block]; exact Nat.ne_of_lt (Nat.lt_of_lt_of_le (by have := World.block_lt_of_cell? _ _ hw002_4; first | rwa [add_block] at this | exact this) GW011.out)) | (dsimp only; exact Nat.ne_of_lt (Nat.lt_of_lt_of_le (by have := World.block_lt_of_cell? _ _ hw002_4; first | rwa [add_block] at this | exact this) GW011.out))) _).trans (hHeld.2.2.2.2.2.2.2.2.2.1)))))))))), ((cell_far (p := ⟨gb011, _, none⟩) (by first | exact Nat.ne_of_lt (Nat.lt_of_lt_of_le (by have := World.block_lt_of_cell? _ _ hw003_0; first | rwa [add_block] at this | exact this) GW011.out) | (rw [add_block]; exact Nat.ne_of_lt (Nat.lt_of_lt_of_le (by have := World.block_lt_of_cell? _ _ hw003_0; first | rwa [add_block] at this | exact this) GW011.out)) | (show (Addr.add _ _).block ≠ _; rw [add_block]; exact Nat.ne_of_lt (Nat.lt_of_lt_of_le (by have := World.block_lt_of_cell? _ _ hw003_0; first | rwa [add_block] at this | exact this) GW011.out)) | (dsimp only; exact Nat.ne_of_lt (Nat.lt_of_lt_of_le (by have := World.block_lt_of_cell? _ _ hw003_0; first | rwa [add_block] at this | exact this) GW011.out))) _).trans (((cell_far (p := ⟨gb011, _, none⟩) (by first | exact Nat.ne_of_lt (Nat.lt_of_lt_of_le (by have := World.block_lt_of_cell? _ _ hw003_0; first | rwa [add_block] at this | exact this) GW011.out) | (rw [add_block]; exact Nat.ne_of_lt (Nat.lt_of_lt_of_le (by have := World.block_lt_of_cell? _ _ hw003_0; first | rwa [add_block] at this | exact this) GW011.out)) | (show (Addr.add _ _).block ≠ _; rw [add_block]; exact Nat.ne_of_lt (Nat.lt_of_lt_of_le (by have := World.block_lt_of_cell? _ _ hw003_0; first | rwa [add_block] at this | exact this) GW011.out)) | (dsimp only; exact Nat.ne_of_lt (Nat.lt_of_lt_of_le (by have := World.block_lt_of_cell? _ _ hw003_0; first | rwa [add_block] at this | exact this) GW011.out))) _).trans (((cell_far (p := ⟨gb011, _, none⟩) (by first | exact Nat.ne_of_lt (Nat.lt_of_lt_of_le (by have := World.block_lt_of_cell? _ _ hw003_0; first | rwa [add_block] at this | exact this) GW011.out) | (rw [add_block]; exact Nat.ne_of_lt (Nat.lt_of_lt_of_le (by have := World.block_lt_of_cell? _ _ hw003_0; first | rwa [add_block] at this | exact this) GW011.out)) | (show (Addr.add _ _).block ≠ _; rw [add_block]; exact Nat.ne_of_lt (Nat.lt_of_lt_of_le (by have := World.block_lt_of_cell? _ _ hw003_0; first | rwa [add_block] at this | exact this) GW011.out)) | (dsimp only; exact Nat.ne_of_lt (Nat.lt_of_lt_of_le (by have := World.block_lt_of_cell? _ _ hw003_0; first | rwa [add_block] at this | exact this) GW011.out))) _).trans (((cell_far (p := ⟨gb011, _, none⟩) (by first | exact Nat.ne_of_lt (Nat.lt_of_lt_of_le (by have := World.block_lt_of_cell? _ _ hw003_0; first | rwa [add_block] at this | exact this) GW011.out) | (rw [add_block]; exact Nat.ne_of_lt (Nat.lt_of_lt_of_le (by have := World.block_lt_of_cell? _ _ hw003_0; first | rwa [add_block] at this | exact this) GW011.out)) | (show (Addr.add _ _).block ≠ _; rw [add_block]; exact Nat.ne_of_lt (Nat.lt_of_lt_of_le (by have := World.block_lt_of_cell? _ _ hw003_0; first | rwa [add_block] at this | exact this) GW011.out)) | (dsimp only; exact Nat.ne_of_lt (Nat.lt_of_lt_of_le (by have := World.block_lt_of_cell? _ _ hw003_0; first | rwa [add_block] at this | exact this) GW011.out))) _).trans (((cell_far (p := ⟨gb011, _, none⟩) (by first | exact Nat.ne_of_lt (Nat.lt_of_lt_of_le (by have := World.block_lt_of_cell? _ _ hw003_0; first | rwa [add_block] at this | exact this) GW011.out) | (rw [add_block]; exact Nat.ne_of_lt (Nat.lt_of_lt_of_le (by have := World.block_lt_of_cell? _ _ hw003_0; first | rwa [add_block] at this | exact this) GW011.out)) | (show (Addr.add _ _).block ≠ _; rw [add_block]; exact Nat.ne_of_lt (Nat.lt_of_lt_of_le (by have := World.block_lt_of_cell? _ _ hw003_0; first | rwa [add_block] at this | exact this) GW011.out)) | (dsimp only; exact Nat.ne_of_lt (Nat.lt_of_lt_of_le (by have := World.block_lt_of_cell? _ _ hw003_0; first | rwa [add_block] at this | exact this) GW011.out))) _).trans (hHeld.2.2.2.2.2.2.2.2.2.2.1)))))))))), ((cell_far (p := ⟨gb011, _, none⟩) (by first | exact Nat.ne_of_lt (Nat.lt_of_lt_of_le (by have := World.block_lt_of_cell? _ _ hw003_1; first | rwa [add_block] at this | exact this) GW011.out) | (rw [add_block]; exact Nat.ne_of_lt (Nat.lt_of_lt_of_le (by have := World.block_lt_of_cell? _ _ hw003_1; first | rwa [add_block] at this | exact this) GW011.out)) | (show (Addr.add _ _).block ≠ _; rw [add_block]; exact Nat.ne_of_lt (Nat.lt_of_lt_of_le (by have := World.block_lt_of_cell? _ _ hw003_1; first | rwa [add_block] at this | exact this) GW011.out)) | (dsimp only; exact Nat.ne_of_lt (Nat.lt_of_lt_of_le (by have := World.block_lt_of_cell? _ _ hw003_1; first | rwa [add_block] at this | exact this) GW011.out))) _).trans (((cell_far (p := ⟨gb011, _, none⟩) (by first | exact Nat.ne_of_lt (Nat.lt_of_lt_of_le (by have := World.block_lt_of_cell? _ _ hw003_1; first | rwa [add_block] at this | exact this) GW011.out) | (rw [add_block]; exact Nat.ne_of_lt (Nat.lt_of_lt_of_le (by have := World.block_lt_of_cell? _ _ hw003_1; first | rwa [add_block] at this | exact this) GW011.out)) | (show (Addr.add _ _).block ≠ _; rw [add_block]; exact Nat.ne_of_lt (Nat.lt_of_lt_of_le (by have := World.block_lt_of_cell? _ _ hw003_1; first | rwa [add_block] at this | exact this) GW011.out)) | (dsimp only; exact Nat.ne_of_lt (Nat.lt_of_lt_of_le (by have := World.block_lt_of_cell? _ _ hw003_1; first | rwa [add_block] at this | exact this) GW011.out))) _).trans (((cell_far (p := ⟨gb011, _, none⟩) (by first | exact Nat.ne_of_lt (Nat.lt_of_lt_of_le (by have := World.block_lt_of_cell? _ _ hw003_1; first | rwa [add_block] at this | exact this) GW011.out) | (rw [add_block]; exact Nat.ne_of_lt (Nat.lt_of_lt_of_le (by have := World.block_lt_of_cell? _ _ hw003_1; first | rwa [add_block] at this | exact this) GW011.out)) | (show (Addr.add _ _).block ≠ _; rw [add_block]; exact Nat.ne_of_lt (Nat.lt_of_lt_of_le (by have := World.block_lt_of_cell? _ _ hw003_1; first | rwa [add_block] at this | exact this) GW011.out)) | (dsimp only; exact Nat.ne_of_lt (Nat.lt_of_lt_of_le (by have := World.block_lt_of_cell? _ _ hw003_1; first | rwa [add_block] at this | exact this) GW011.out))) _).trans (((cell_far (p := ⟨gb011, _, none⟩) (by first | exact Nat.ne_of_lt (Nat.lt_of_lt_of_le (by have := World.block_lt_of_cell? _ _ hw003_1; first | rwa [add_block] at this | exact this) GW011.out) | (rw [add_block]; exact Nat.ne_of_lt (Nat.lt_of_lt_of_le (by have := World.block_lt_of_cell? _ _ hw003_1; first | rwa [add_block] at this | exact this) GW011.out)) | (show (Addr.add _ _).block ≠ _; rw [add_block]; exact Nat.ne_of_lt (Nat.lt_of_lt_of_le (by have := World.block_lt_of_cell? _ _ hw003_1; first | rwa [add_block] at this | exact this) GW011.out)) | (dsimp only; exact Nat.ne_of_lt (Nat.lt_of_lt_of_le (by have := World.block_lt_of_cell? _ _ hw003_1; first | rwa [add_block] at this | exact this) GW011.out))) _).trans (((cell_far (p := ⟨gb011, _, none⟩) (by first | exact Nat.ne_of_lt (Nat.lt_of_lt_of_le (by have := World.block_lt_of_cell? _ _ hw003_1; first | rwa [add_block] at this | exact this) GW011.out) | (rw [add_block]; exact Nat.ne_of_lt (Nat.lt_of_lt_of_le (by have := World.block_lt_of_cell? _ _ hw003_1; first | rwa [add_block] at this | exact this) GW011.out)) | (show (Addr.add _ _).block ≠ _; rw [add_block]; exact Nat.ne_of_lt (Nat.lt_of_lt_of_le (by have := World.block_lt_of_cell? _ _ hw003_1; first | rwa [add_block] at this | exact this) GW011.out)) | (dsimp only; exact Nat.ne_of_lt (Nat.lt_of_lt_of_le (by have := World.block_lt_of_cell? _ _ hw003_1; first | rwa [add_block] at this | exact this) GW011.out))) _).trans (hHeld.2.2.2.2.2.2.2.2.2.2.2.1)))))))))), ((cell_far (p := ⟨gb011, _, none⟩) (by first | exact Nat.ne_of_lt (Nat.lt_of_lt_of_le (by have := World.block_lt_of_cell? _ _ hw003_2; first | rwa [add_block] at this | exact this) GW011.out) | (rw [add_block]; exact Nat.ne_of_lt (Nat.lt_of_lt_of_le (by have := World.block_lt_of_cell? _ _ hw003_2; first | rwa [add_block] at this | exact this) GW011.out)) | (show (Addr.add _ _).block ≠ _; rw [add_block]; exact Nat.ne_of_lt (Nat.lt_of_lt_of_le (by have := World.block_lt_of_cell? _ _ hw003_2; first | rwa [add_block] at this | exact this) GW011.out)) | (dsimp only; exact Nat.ne_of_lt (Nat.lt_of_lt_of_le (by have := World.block_lt_of_cell? _ _ hw003_2; first | rwa [add_block] at this | exact this) GW011.out))) _).trans (((cell_far (p := ⟨gb011, _, none⟩) (by first | exact Nat.ne_of_lt (Nat.lt_of_lt_of_le (by have := World.block_lt_of_cell? _ _ hw003_2; first | rwa [add_block] at this | exact this) GW011.out) | (rw [add_block]; exact Nat.ne_of_lt (Nat.lt_of_lt_of_le (by have := World.block_lt_of_cell? _ _ hw003_2; first | rwa [add_block] at this | exact this) GW011.out)) | (show (Addr.add _ _).block ≠ _; rw [add_block]; exact Nat.ne_of_lt (Nat.lt_of_lt_of_le (by have := World.block_lt_of_cell? _ _ hw003_2; first | rwa [add_block] at this | exact this) GW011.out)) | (dsimp only; exact Nat.ne_of_lt (Nat.lt_of_lt_of_le (by have := World.block_lt_of_cell? _ _ hw003_2; first | rwa [add_block] at this | exact this) GW011.out))) _).trans (((cell_far (p := ⟨gb011, _, none⟩) (by first | exact Nat.ne_of_lt (Nat.lt_of_lt_of_le (by have := World.block_lt_of_cell? _ _ hw003_2; first | rwa [add_block] at this | exact this) GW011.out) | (rw [add_block]; exact Nat.ne_of_lt (Nat.lt_of_lt_of_le (by have := World.block_lt_of_cell? _ _ hw003_2; first | rwa [add_block] at this | exact this) GW011.out)) | (show (Addr.add _ _).block ≠ _; rw [add_block]; exact Nat.ne_of_lt (Nat.lt_of_lt_of_le (by have := World.block_lt_of_cell? _ _ hw003_2; first | rwa [add_block] at this | exact this) GW011.out)) | (dsimp only; exact Nat.ne_of_lt (Nat.lt_of_lt_of_le (by have := World.block_lt_of_cell? _ _ hw003_2; first | rwa [add_block] at this | exact this) GW011.out))) _).trans (((cell_far (p := ⟨gb011, _, none⟩) (by first | exact Nat.ne_of_lt (Nat.lt_of_lt_of_le (by have := World.block_lt_of_cell? _ _ hw003_2; first | rwa [add_block] at this | exact this) GW011.out) | (rw [add_block]; exact Nat.ne_of_lt (Nat.lt_of_lt_of_le (by have := World.block_lt_of_cell? _ _ hw003_2; first | rwa [add_block] at this | exact this) GW011.out)) | (show (Addr.add _ _).block ≠ _; rw [add_block]; exact Nat.ne_of_lt (Nat.lt_of_lt_of_le (by have := World.block_lt_of_cell? _ _ hw003_2; first | rwa [add_block] at this | exact this) GW011.out)) | (dsimp only; exact Nat.ne_of_lt (Nat.lt_of_lt_of_le (by have := World.block_lt_of_cell? _ _ hw003_2; first | rwa [add_block] at this | exact this) GW011.out))) _).trans (((cell_far (p := ⟨gb011, _, none⟩) (by first | exact Nat.ne_of_lt (Nat.lt_of_lt_of_le (by have := World.block_lt_of_cell? _ _ hw003_2; first | rwa [add_block] at this | exact this) GW011.out) | (rw [add_block]; exact Nat.ne_of_lt (Nat.lt_of_lt_of_le (by have := World.block_lt_of_cell? _ _ hw003_2; first | rwa [add_block] at this | exact this) GW011.out)) | (show (Addr.add _ _).block ≠ _; rw [add_block]; exact Nat.ne_of_lt (Nat.lt_of_lt_of_le (by have := World.block_lt_of_cell? _ _ hw003_2; first | rwa [add_block] at this | exact this) GW011.out)) | (dsimp only; exact Nat.ne_of_lt (Nat.lt_of_lt_of_le (by have := World.block_lt_of_cell? _ _ hw003_2; first | rwa [add_block] at this | exact this) GW011.out))) _).trans (hHeld.2.2.2.2.2.2.2.2.2.2.2.2.1)))))))))), ((cell_far (p := ⟨gb011, _, none⟩) (by first | exact Nat.ne_of_lt (Nat.lt_of_lt_of_le (by have := World.block_lt_of_cell? _ _ hw003_3; first | rwa [add_block] at this | exact this) GW011.out) | (rw [add_block]; exact Nat.ne_of_lt (Nat.lt_of_lt_of_le (by have := World.block_lt_of_cell? _ _ hw003_3; first | rwa [add_block] at this | exact this) GW011.out)) | (show (Addr.add _ _).block ≠ _; rw [add_block]; exact Nat.ne_of_lt (Nat.lt_of_lt_of_le (by have := World.block_lt_of_cell? _ _ hw003_3; first | rwa [add_block] at this | exact this) GW011.out)) | (dsimp only; exact Nat.ne_of_lt (Nat.lt_of_lt_of_le (by have := World.block_lt_of_cell? _ _ hw003_3; first | rwa [add_block] at this | exact this) GW011.out))) _).trans (((cell_far (p := ⟨gb011, _, none⟩) (by first | exact Nat.ne_of_lt (Nat.lt_of_lt_of_le (by have := World.block_lt_of_cell? _ _ hw003_3; first | rwa [add_block] at this | exact this) GW011.out) | (rw [add_block]; exact Nat.ne_of_lt (Nat.lt_of_lt_of_le (by have := World.block_lt_of_cell? _ _ hw003_3; first | rwa [add_block] at this | exact this) GW011.out)) | (show (Addr.add _ _).block ≠ _; rw [add_block]; exact Nat.ne_of_lt (Nat.lt_of_lt_of_le (by have := World.block_lt_of_cell? _ _ hw003_3; first | rwa [add_block] at this | exact this) GW011.out)) | (dsimp only; exact Nat.ne_of_lt (Nat.lt_of_lt_of_le (by have := World.block_lt_of_cell? _ _ hw003_3; first | rwa [add_block] at this | exact this) GW011.out))) _).trans (((cell_far (p := ⟨gb011, _, none⟩) (by first | exact Nat.ne_of_lt (Nat.lt_of_lt_of_le (by have := World.block_lt_of_cell? _ _ hw003_3; first | rwa [add_block] at this | exact this) GW011.out) | (rw [add_block]; exact Nat.ne_of_lt (Nat.lt_of_lt_of_le (by have := World.block_lt_of_cell? _ _ hw003_3; first | rwa [add_block] at this | exact this) GW011.out)) | (show (Addr.add _ _).block ≠ _; rw [add_block]; exact Nat.ne_of_lt (Nat.lt_of_lt_of_le (by have := World.block_lt_of_cell? _ _ hw003_3; first | rwa [add_block] at this | exact this) GW011.out)) | (dsimp only; exact Nat.ne_of_lt (Nat.lt_of_lt_of_le (by have := World.block_lt_of_cell? _ _ hw003_3; first | rwa [add_block] at this | exact this) GW011.out))) _).trans (((cell_far (p := ⟨gb011, _, none⟩) (by first | exact Nat.ne_of_lt (Nat.lt_of_lt_of_le (by have := World.block_lt_of_cell? _ _ hw003_3; first | rwa [add_block] at this | exact this) GW011.out) | (rw [add_block]; exact Nat.ne_of_lt (Nat.lt_of_lt_of_le (by have := World.block_lt_of_cell? _ _ hw003_3; first | rwa [add_block] at this | exact this) GW011.out)) | (show (Addr.add _ _).block ≠ _; rw [add_block]; exact Nat.ne_of_lt (Nat.lt_of_lt_of_le (by have := World.block_lt_of_cell? _ _ hw003_3; first | rwa [add_block] at this | exact this) GW011.out)) | (dsimp only; exact Nat.ne_of_lt (Nat.lt_of_lt_of_le (by have := World.block_lt_of_cell? _ _ hw003_3; first | rwa [add_block] at this | exact this) GW011.out))) _).trans (((cell_far (p := ⟨gb011, _, none⟩) (by first | exact Nat.ne_of_lt (Nat.lt_of_lt_of_le (by have := World.block_lt_of_cell? _ _ hw003_3; first | rwa [add_block] at this | exact this) GW011.out) | (rw [add_block]; exact Nat.ne_of_lt (Nat.lt_of_lt_of_le (by have := World.block_lt_of_cell? _ _ hw003_3; first | rwa [add_block] at this | exact this) GW011.out)) | (show (Addr.add _ _).block ≠ _; rw [add_block]; exact Nat.ne_of_lt (Nat.lt_of_lt_of_le (by have := World.block_lt_of_cell? _ _ hw003_3; first | rwa [add_block] at this | exact this) GW011.out)) | (dsimp only; exact Nat.ne_of_lt (Nat.lt_of_lt_of_le (by have := World.block_lt_of_cell? _ _ hw003_3; first | rwa [add_block] at this | exact this) GW011.out))) _).trans (hHeld.2.2.2.2.2.2.2.2.2.2.2.2.2.1)))))))))), ((cell_far (p := ⟨gb011, _, none⟩) (by first | exact Nat.ne_of_lt (Nat.lt_of_lt_of_le (by have := World.block_lt_of_cell? _ _ hw003_4; first | rwa [add_block] at this | exact this) GW011.out) | (rw [add_block]; exact Nat.ne_of_lt (Nat.lt_of_lt_of_le (by have := World.block_lt_of_cell? _ _ hw003_4; first | rwa [add_block] at this | exact this) GW011.out)) | (show (Addr.add _ _).block ≠ _; rw [add_block]; exact Nat.ne_of_lt (Nat.lt_of_lt_of_le (by have := World.block_lt_of_cell? _ _ hw003_4; first | rwa [add_block] at this | exact this) GW011.out)) | (dsimp only; exact Nat.ne_of_lt (Nat.lt_of_lt_of_le (by have := World.block_lt_of_cell? _ _ hw003_4; first | rwa [add_block] at this | exact this) GW011.out))) _).trans (((cell_far (p := ⟨gb011, _, none⟩) (by first | exact Nat.ne_of_lt (Nat.lt_of_lt_of_le (by have := World.block_lt_of_cell? _ _ hw003_4; first | rwa [add_block] at this | exact this) GW011.out) | (rw [add_block]; exact Nat.ne_of_lt (Nat.lt_of_lt_of_le (by have := World.block_lt_of_cell? _ _ hw003_4; first | rwa [add_block] at this | exact this) GW011.out)) | (show (Addr.add _ _).block ≠ _; rw [add_block]; exact Nat.ne_of_lt (Nat.lt_of_lt_of_le (by have := World.block_lt_of_cell? _ _ hw003_4; first | rwa [add_block] at this | exact this) GW011.out)) | (dsimp only; exact Nat.ne_of_lt (Nat.lt_of_lt_of_le (by have := World.block_lt_of_cell? _ _ hw003_4; first | rwa [add_block] at this | exact this) GW011.out))) _).trans (((cell_far (p := ⟨gb011, _, none⟩) (by first | exact Nat.ne_of_lt (Nat.lt_of_lt_of_le (by have := World.block_lt_of_cell? _ _ hw003_4; first | rwa [add_block] at this | exact this) GW011.out) | (rw [add_block]; exact Nat.ne_of_lt (Nat.lt_of_lt_of_le (by have := World.block_lt_of_cell? _ _ hw003_4; first | rwa [add_block] at this | exact this) GW011.out)) | (show (Addr.add _ _).block ≠ _; rw [add_block]; exact Nat.ne_of_lt (Nat.lt_of_lt_of_le (by have := World.block_lt_of_cell? _ _ hw003_4; first | rwa [add_block] at this | exact this) GW011.out)) | (dsimp only; exact Nat.ne_of_lt (Nat.lt_of_lt_of_le (by have := World.block_lt_of_cell? _ _ hw003_4; first | rwa [add_block] at this | exact this) GW011.out))) _).trans (((cell_far (p := ⟨gb011, _, none⟩) (by first | exact Nat.ne_of_lt (Nat.lt_of_lt_of_le (by have := World.block_lt_of_cell? _ _ hw003_4; first | rwa [add_block] at this | exact this) GW011.out) | (rw [add_block]; exact Nat.ne_of_lt (Nat.lt_of_lt_of_le (by have := World.block_lt_of_cell? _ _ hw003_4; first | rwa [add_block] at this | exact this) GW011.out)) | (show (Addr.add _ _).block ≠ _; rw [add_block]; exact Nat.ne_of_lt (Nat.lt_of_lt_of_le (by have := World.block_lt_of_cell? _ _ hw003_4; first | rwa [add_block] at this | exact this) GW011.out)) | (dsimp only; exact Nat.ne_of_lt (Nat.lt_of_lt_of_le (by have := World.block_lt_of_cell? _ _ hw003_4; first | rwa [add_block] at this | exact this) GW011.out))) _).trans (((cell_far (p := ⟨gb011, _, none⟩) (by first | exact Nat.ne_of_lt (Nat.lt_of_lt_of_le (by have := World.block_lt_of_cell? _ _ hw003_4; first | rwa [add_block] at this | exact this) GW011.out) | (rw [add_block]; exact Nat.ne_of_lt (Nat.lt_of_lt_of_le (by have := World.block_lt_of_cell? _ _ hw003_4; first | rwa [add_block] at this | exact this) GW011.out)) | (show (Addr.add _ _).block ≠ _; rw [add_block]; exact Nat.ne_of_lt (Nat.lt_of_lt_of_le (by have := World.block_lt_of_cell? _ _ hw003_4; first | rwa [add_block] at this | exact this) GW011.out)) | (dsimp only; exact Nat.ne_of_lt (Nat.lt_of_lt_of_le (by have := World.block_lt_of_cell? _ _ hw003_4; first | rwa [add_block] at this | exact this) GW011.out))) _).trans (hHeld.2.2.2.2.2.2.2.2.2.2.2.2.2.2.1)))))))))), ((cell_far (p := ⟨gb011, _, none⟩) (by first | exact Nat.ne_of_lt (Nat.lt_of_lt_of_le (by have := World.block_lt_of_cell? _ _ hw007_0; first | rwa [add_block] at this | exact this) GW011.out) | (rw [add_block]; exact Nat.ne_of_lt (Nat.lt_of_lt_of_le (by have := World.block_lt_of_cell? _ _ hw007_0; first | rwa [add_block] at this | exact this) GW011.out)) | (show (Addr.add _ _).block ≠ _; rw [add_block]; exact Nat.ne_of_lt (Nat.lt_of_lt_of_le (by have := World.block_lt_of_cell? _ _ hw007_0; first | rwa [add_block] at this | exact this) GW011.out)) | (dsimp only; exact Nat.ne_of_lt (Nat.lt_of_lt_of_le (by have := World.block_lt_of_cell? _ _ hw007_0; first | rwa [add_block] at this | exact this) GW011.out))) _).trans (((cell_far (p := ⟨gb011, _, none⟩) (by first | exact Nat.ne_of_lt (Nat.lt_of_lt_of_le (by have := World.block_lt_of_cell? _ _ hw007_0; first | rwa [add_block] at this | exact this) GW011.out) | (rw [add_block]; exact Nat.ne_of_lt (Nat.lt_of_lt_of_le (by have := World.block_lt_of_cell? _ _ hw007_0; first | rwa [add_block] at this | exact this) GW011.out)) | (show (Addr.add _ _).block ≠ _; rw [add_block]; exact Nat.ne_of_lt (Nat.lt_of_lt_of_le (by have := World.block_lt_of_cell? _ _ hw007_0; first | rwa [add_block] at this | exact this) GW011.out)) | (dsimp only; exact Nat.ne_of_lt (Nat.lt_of_lt_of_le (by have := World.block_lt_of_cell? _ _ hw007_0; first | rwa [add_block] at this | exact this) GW011.out))) _).trans (((cell_far (p := ⟨gb011, _, none⟩) (by first | exact Nat.ne_of_lt (Nat.lt_of_lt_of_le (by have := World.block_lt_of_cell? _ _ hw007_0; first | rwa [add_block] at this | exact this) GW011.out) | (rw [add_block]; exact Nat.ne_of_lt (Nat.lt_of_lt_of_le (by have := World.block_lt_of_cell? _ _ hw007_0; first | rwa [add_block] at this | exact this) GW011.out)) | (show (Addr.add _ _).block ≠ _; rw [add_block]; exact Nat.ne_of_lt (Nat.lt_of_lt_of_le (by have := World.block_lt_of_cell? _ _ hw007_0; first | rwa [add_block] at this | exact this) GW011.out)) | (dsimp only; exact Nat.ne_of_lt (Nat.lt_of_lt_of_le (by have := World.block_lt_of_cell? _ _ hw007_0; first | rwa [add_block] at this | exact this) GW011.out))) _).trans (((cell_far (p := ⟨gb011, _, none⟩) (by first | exact Nat.ne_of_lt (Nat.lt_of_lt_of_le (by have := World.block_lt_of_cell? _ _ hw007_0; first | rwa [add_block] at this | exact this) GW011.out) | (rw [add_block]; exact Nat.ne_of_lt (Nat.lt_of_lt_of_le (by have := World.block_lt_of_cell? _ _ hw007_0; first | rwa [add_block] at this | exact this) GW011.out)) | (show (Addr.add _ _).block ≠ _; rw [add_block]; exact Nat.ne_of_lt (Nat.lt_of_lt_of_le (by have := World.block_lt_of_cell? _ _ hw007_0; first | rwa [add_block] at this | exact this) GW011.out)) | (dsimp only; exact Nat.ne_of_lt (Nat.lt_of_lt_of_le (by have := World.block_lt_of_cell? _ _ hw007_0; first | rwa [add_block] at this | exact this) GW011.out))) _).trans (((cell_far (p := ⟨gb011, _, none⟩) (by first | exact Nat.ne_of_lt (Nat.lt_of_lt_of_le (by have := World.block_lt_of_cell? _ _ hw007_0; first | rwa [add_block] at this | exact this) GW011.out) | (rw [add_block]; exact Nat.ne_of_lt (Nat.lt_of_lt_of_le (by have := World.block_lt_of_cell? _ _ hw007_0; first | rwa [add_block] at this | exact this) GW011.out)) | (show (Addr.add _ _).block ≠ _; rw [add_block]; exact Nat.ne_of_lt (Nat.lt_of_lt_of_le (by have := World.block_lt_of_cell? _ _ hw007_0; first | rwa [add_block] at this | exact this) GW011.out)) | (dsimp only; exact Nat.ne_of_lt (Nat.lt_of_lt_of_le (by have := World.block_lt_of_cell? _ _ hw007_0; first | rwa [add_block] at this | exact this) GW011.out))) _).trans (hHeld.2.2.2.2.2.2.2.2.2.2.2.2.2.2.2.1)))))))))), ((cell_far (p := ⟨gb011, _, none⟩) (by first | exact Nat.ne_of_lt (Nat.lt_of_lt_of_le (by have := World.block_lt_of_cell? _ _ hw007_1; first | rwa [add_block] at this | exact this) GW011.out) | (rw [add_block]; exact Nat.ne_of_lt (Nat.lt_of_lt_of_le (by have := World.block_lt_of_cell? _ _ hw007_1; first | rwa [add_block] at this | exact this) GW011.out)) | (show (Addr.add _ _).block ≠ _; rw [add_block]; exact Nat.ne_of_lt (Nat.lt_of_lt_of_le (by have := World.block_lt_of_cell? _ _ hw007_1; first | rwa [add_block] at this | exact this) GW011.out)) | (dsimp only; exact Nat.ne_of_lt (Nat.lt_of_lt_of_le (by have := World.block_lt_of_cell? _ _ hw007_1; first | rwa [add_block] at this | exact this) GW011.out))) _).trans (((cell_far (p := ⟨gb011, _, none⟩) (by first | exact Nat.ne_of_lt (Nat.lt_of_lt_of_le (by have := World.block_lt_of_cell? _ _ hw007_1; first | rwa [add_block] at this | exact this) GW011.out) | (rw [add_block]; exact Nat.ne_of_lt (Nat.lt_of_lt_of_le (by have := World.block_lt_of_cell? _ _ hw007_1; first | rwa [add_block] at this | exact this) GW011.out)) | (show (Addr.add _ _).block ≠ _; rw [add_block]; exact Nat.ne_of_lt (Nat.lt_of_lt_of_le (by have := World.block_lt_of_cell? _ _ hw007_1; first | rwa [add_block] at this | exact this) GW011.out)) | (dsimp only; exact Nat.ne_of_lt (Nat.lt_of_lt_of_le (by have := World.block_lt_of_cell? _ _ hw007_1; first | rwa [add_block] at this | exact this) GW011.out))) _).trans (((cell_far (p := ⟨gb011, _, none⟩) (by first | exact Nat.ne_of_lt (Nat.lt_of_lt_of_le (by have := World.block_lt_of_cell? _ _ hw007_1; first | rwa [add_block] at this | exact this) GW011.out) | (rw [add_block]; exact Nat.ne_of_lt (Nat.lt_of_lt_of_le (by have := World.block_lt_of_cell? _ _ hw007_1; first | rwa [add_block] at this | exact this) GW011.out)) | (show (Addr.add _ _).block ≠ _; rw [add_block]; exact Nat.ne_of_lt (Nat.lt_of_lt_of_le (by have := World.block_lt_of_cell? _ _ hw007_1; first | rwa [add_block] at this | exact this) GW011.out)) | (dsimp only; exact Nat.ne_of_lt (Nat.lt_of_lt_of_le (by have := World.block_lt_of_cell? _ _ hw007_1; first | rwa [add_block] at this | exact this) GW011.out))) _).trans (((cell_far (p := ⟨gb011, _, none⟩) (by first | exact Nat.ne_of_lt (Nat.lt_of_lt_of_le (by have := World.block_lt_of_cell? _ _ hw007_1; first | rwa [add_block] at this | exact this) GW011.out) | (rw [add_block]; exact Nat.ne_of_lt (Nat.lt_of_lt_of_le (by have := World.block_lt_of_cell? _ _ hw007_1; first | rwa [add_block] at this | exact this) GW011.out)) | (show (Addr.add _ _).block ≠ _; rw [add_block]; exact Nat.ne_of_lt (Nat.lt_of_lt_of_le (by have := World.block_lt_of_cell? _ _ hw007_1; first | rwa [add_block] at this | exact this) GW011.out)) | (dsimp only; exact Nat.ne_of_lt (Nat.lt_of_lt_of_le (by have := World.block_lt_of_cell? _ _ hw007_1; first | rwa [add_block] at this | exact this) GW011.out))) _).trans (((cell_far (p := ⟨gb011, _, none⟩) (by first | exact Nat.ne_of_lt (Nat.lt_of_lt_of_le (by have := World.block_lt_of_cell? _ _ hw007_1; first | rwa [add_block] at this | exact this) GW011.out) | (rw [add_block]; exact Nat.ne_of_lt (Nat.lt_of_lt_of_le (by have := World.block_lt_of_cell? _ _ hw007_1; first | rwa [add_block] at this | exact this) GW011.out)) | (show (Addr.add _ _).block ≠ _; rw [add_block]; exact Nat.ne_of_lt (Nat.lt_of_lt_of_le (by have := World.block_lt_of_cell? _ _ hw007_1; first | rwa [add_block] at this | exact this) GW011.out)) | (dsimp only; exact Nat.ne_of_lt (Nat.lt_of_lt_of_le (by have := World.block_lt_of_cell? _ _ hw007_1; first | rwa [add_block] at this | exact this) GW011.out))) _).trans (hHeld.2.2.2.2.2.2.2.2.2.2.2.2.2.2.2.2.1)))))))))), ((cell_far (p := ⟨gb011, _, none⟩) (by first | exact Nat.ne_of_lt (Nat.lt_of_lt_of_le (by have := World.block_lt_of_cell? _ _ hw007_2; first | rwa [add_block] at this | exact this) GW011.out) | (rw [add_block]; exact Nat.ne_of_lt (Nat.lt_of_lt_of_le (by have := World.block_lt_of_cell? _ _ hw007_2; first | rwa [add_block] at this | exact this) GW011.out)) | (show (Addr.add _ _).block ≠ _; rw [add_block]; exact Nat.ne_of_lt (Nat.lt_of_lt_of_le (by have := World.block_lt_of_cell? _ _ hw007_2; first | rwa [add_block] at this | exact this) GW011.out)) | (dsimp only; exact Nat.ne_of_lt (Nat.lt_of_lt_of_le (by have := World.block_lt_of_cell? _ _ hw007_2; first | rwa [add_block] at this | exact this) GW011.out))) _).trans (((cell_far (p := ⟨gb011, _, none⟩) (by first | exact Nat.ne_of_lt (Nat.lt_of_lt_of_le (by have := World.block_lt_of_cell? _ _ hw007_2; first | rwa [add_block] at this | exact this) GW011.out) | (rw [add_block]; exact Nat.ne_of_lt (Nat.lt_of_lt_of_le (by have := World.block_lt_of_cell? _ _ hw007_2; first | rwa [add_block] at this | exact this) GW011.out)) | (show (Addr.add _ _).block ≠ _; rw [add_block]; exact Nat.ne_of_lt (Nat.lt_of_lt_of_le (by have := World.block_lt_of_cell? _ _ hw007_2; first | rwa [add_block] at this | exact this) GW011.out)) | (dsimp only; exact Nat.ne_of_lt (Nat.lt_of_lt_of_le (by have := World.block_lt_of_cell? _ _ hw007_2; first | rwa [add_block] at this | exact this) GW011.out))) _).trans (((cell_far (p := ⟨gb011, _, none⟩) (by first | exact Nat.ne_of_lt (Nat.lt_of_lt_of_le (by have := World.block_lt_of_cell? _ _ hw007_2; first | rwa [add_block] at this | exact this) GW011.out) | (rw [add_block]; exact Nat.ne_of_lt (Nat.lt_of_lt_of_le (by have := World.block_lt_of_cell? _ _ hw007_2; first | rwa [add_block] at this | exact this) GW011.out)) | (show (Addr.add _ _).block ≠ _; rw [add_block]; exact Nat.ne_of_lt (Nat.lt_of_lt_of_le (by have := World.block_lt_of_cell? _ _ hw007_2; first | rwa [add_block] at this | exact this) GW011.out)) | (dsimp only; exact Nat.ne_of_lt (Nat.lt_of_lt_of_le (by have := World.block_lt_of_cell? _ _ hw007_2; first | rwa [add_block] at this | exact this) GW011.out))) _).trans (((cell_far (p := ⟨gb011, _, none⟩) (by first | exact Nat.ne_of_lt (Nat.lt_of_lt_of_le (by have := World.block_lt_of_cell? _ _ hw007_2; first | rwa [add_block] at this | exact this) GW011.out) | (rw [add_block]; exact Nat.ne_of_lt (Nat.lt_of_lt_of_le (by have := World.block_lt_of_cell? _ _ hw007_2; first | rwa [add_block] at this | exact this) GW011.out)) | (show (Addr.add _ _).block ≠ _; rw [add_block]; exact Nat.ne_of_lt (Nat.lt_of_lt_of_le (by have := World.block_lt_of_cell? _ _ hw007_2; first | rwa [add_block] at this | exact this) GW011.out)) | (dsimp only; exact Nat.ne_of_lt (Nat.lt_of_lt_of_le (by have := World.block_lt_of_cell? _ _ hw007_2; first | rwa [add_block] at this | exact this) GW011.out))) _).trans (((cell_far (p := ⟨gb011, _, none⟩) (by first | exact Nat.ne_of_lt (Nat.lt_of_lt_of_le (by have := World.block_lt_of_cell? _ _ hw007_2; first | rwa [add_block] at this | exact this) GW011.out) | (rw [add_block]; exact Nat.ne_of_lt (Nat.lt_of_lt_of_le (by have := World.block_lt_of_cell? _ _ hw007_2; first | rwa [add_block] at this | exact this) GW011.out)) | (show (Addr.add _ _).block ≠ _; rw [add_block]; exact Nat.ne_of_lt (Nat.lt_of_lt_of_le (by have := World.block_lt_of_cell? _ _ hw007_2; first | rwa [add_block] at this | exact this) GW011.out)) | (dsimp only; exact Nat.ne_of_lt (Nat.lt_of_lt_of_le (by have := World.block_lt_of_cell? _ _ hw007_2; first | rwa [add_block] at this | exact this) GW011.out))) _).trans (hHeld.2.2.2.2.2.2.2.2.2.2.2.2.2.2.2.2.2.1)))))))))), ((cell_far (p := ⟨gb011, _, none⟩) (by first | exact Nat.ne_of_lt (Nat.lt_of_lt_of_le (by have := World.block_lt_of_cell? _ _ hw007_3; first | rwa [add_block] at this | exact this) GW011.out) | (rw [add_block]; exact Nat.ne_of_lt (Nat.lt_of_lt_of_le (by have := World.block_lt_of_cell? _ _ hw007_3; first | rwa [add_block] at this | exact this) GW011.out)) | (show (Addr.add _ _).block ≠ _; rw [add_block]; exact Nat.ne_of_lt (Nat.lt_of_lt_of_le (by have := World.block_lt_of_cell? _ _ hw007_3; first | rwa [add_block] at this | exact this) GW011.out)) | (dsimp only; exact Nat.ne_of_lt (Nat.lt_of_lt_of_le (by have := World.block_lt_of_cell? _ _ hw007_3; first | rwa [add_block] at this | exact this) GW011.out))) _).trans (((cell_far (p := ⟨gb011, _, none⟩) (by first | exact Nat.ne_of_lt (Nat.lt_of_lt_of_le (by have := World.block_lt_of_cell? _ _ hw007_3; first | rwa [add_block] at this | exact this) GW011.out) | (rw [add_block]; exact Nat.ne_of_lt (Nat.lt_of_lt_of_le (by have := World.block_lt_of_cell? _ _ hw007_3; first | rwa [add_block] at this | exact this) GW011.out)) | (show (Addr.add _ _).block ≠ _; rw [add_block]; exact Nat.ne_of_lt (Nat.lt_of_lt_of_le (by have := World.block_lt_of_cell? _ _ hw007_3; first | rwa [add_block] at this | exact this) GW011.out)) | (dsimp only; exact Nat.ne_of_lt (Nat.lt_of_lt_of_le (by have := World.block_lt_of_cell? _ _ hw007_3; first | rwa [add_block] at this | exact this) GW011.out))) _).trans (((cell_far (p := ⟨gb011, _, none⟩) (by first | exact Nat.ne_of_lt (Nat.lt_of_lt_of_le (by have := World.block_lt_of_cell? _ _ hw007_3; first | rwa [add_block] at this | exact this) GW011.out) | (rw [add_block]; exact Nat.ne_of_lt (Nat.lt_of_lt_of_le (by have := World.block_lt_of_cell? _ _ hw007_3; first | rwa [add_block] at this | exact this) GW011.out)) | (show (Addr.add _ _).block ≠ _; rw [add_block]; exact Nat.ne_of_lt (Nat.lt_of_lt_of_le (by have := World.block_lt_of_cell? _ _ hw007_3; first | rwa [add_block] at this | exact this) GW011.out)) | (dsimp only; exact Nat.ne_of_lt (Nat.lt_of_lt_of_le (by have := World.block_lt_of_cell? _ _ hw007_3; first | rwa [add_block] at this | exact this) GW011.out))) _).trans (((cell_far (p := ⟨gb011, _, none⟩) (by first | exact Nat.ne_of_lt (Nat.lt_of_lt_of_le (by have := World.block_lt_of_cell? _ _ hw007_3; first | rwa [add_block] at this | exact this) GW011.out) | (rw [add_block]; exact Nat.ne_of_lt (Nat.lt_of_lt_of_le (by have := World.block_lt_of_cell? _ _ hw007_3; first | rwa [add_block] at this | exact this) GW011.out)) | (show (Addr.add _ _).block ≠ _; rw [add_block]; exact Nat.ne_of_lt (Nat.lt_of_lt_of_le (by have := World.block_lt_of_cell? _ _ hw007_3; first | rwa [add_block] at this | exact this) GW011.out)) | (dsimp only; exact Nat.ne_of_lt (Nat.lt_of_lt_of_le (by have := World.block_lt_of_cell? _ _ hw007_3; first | rwa [add_block] at this | exact this) GW011.out))) _).trans (((cell_far (p := ⟨gb011, _, none⟩) (by first | exact Nat.ne_of_lt (Nat.lt_of_lt_of_le (by have := World.block_lt_of_cell? _ _ hw007_3; first | rwa [add_block] at this | exact this) GW011.out) | (rw [add_block]; exact Nat.ne_of_lt (Nat.lt_of_lt_of_le (by have := World.block_lt_of_cell? _ _ hw007_3; first | rwa [add_block] at this | exact this) GW011.out)) | (show (Addr.add _ _).block ≠ _; rw [add_block]; exact Nat.ne_of_lt (Nat.lt_of_lt_of_le (by have := World.block_lt_of_cell? _ _ hw007_3; first | rwa [add_block] at this | exact this) GW011.out)) | (dsimp only; exact Nat.ne_of_lt (Nat.lt_of_lt_of_le (by have := World.block_lt_of_cell? _ _ hw007_3; first | rwa [add_block] at this | exact this) GW011.out))) _).trans (hHeld.2.2.2.2.2.2.2.2.2.2.2.2.2.2.2.2.2.2.1)))))))))), ((cell_far (p := ⟨gb011, _, none⟩) (by first | exact Nat.ne_of_lt (Nat.lt_of_lt_of_le (by have := World.block_lt_of_cell? _ _ hw007_4; first | rwa [add_block] at this | exact this) GW011.out) | (rw [add_block]; exact Nat.ne_of_lt (Nat.lt_of_lt_of_le (by have := World.block_lt_of_cell? _ _ hw007_4; first | rwa [add_block] at this | exact this) GW011.out)) | (show (Addr.add _ _).block ≠ _; rw [add_block]; exact Nat.ne_of_lt (Nat.lt_of_lt_of_le (by have := World.block_lt_of_cell? _ _ hw007_4; first | rwa [add_block] at this | exact this) GW011.out)) | (dsimp only; exact Nat.ne_of_lt (Nat.lt_of_lt_of_le (by have := World.block_lt_of_cell? _ _ hw007_4; first | rwa [add_block] at this | exact this) GW011.out))) _).trans (((cell_far (p := ⟨gb011, _, none⟩) (by first | exact Nat.ne_of_lt (Nat.lt_of_lt_of_le (by have := World.block_lt_of_cell? _ _ hw007_4; first | rwa [add_block] at this | exact this) GW011.out) | (rw [add_block]; exact Nat.ne_of_lt (Nat.lt_of_lt_of_le (by have := World.block_lt_of_cell? _ _ hw007_4; first | rwa [add_block] at this | exact this) GW011.out)) | (show (Addr.add _ _).block ≠ _; rw [add_block]; exact Nat.ne_of_lt (Nat.lt_of_lt_of_le (by have := World.block_lt_of_cell? _ _ hw007_4; first | rwa [add_block] at this | exact this) GW011.out)) | (dsimp only; exact Nat.ne_of_lt (Nat.lt_of_lt_of_le (by have := World.block_lt_of_cell? _ _ hw007_4; first | rwa [add_block] at this | exact this) GW011.out))) _).trans (((cell_far (p := ⟨gb011, _, none⟩) (by first | exact Nat.ne_of_lt (Nat.lt_of_lt_of_le (by have := World.block_lt_of_cell? _ _ hw007_4; first | rwa [add_block] at this | exact this) GW011.out) | (rw [add_block]; exact Nat.ne_of_lt (Nat.lt_of_lt_of_le (by have := World.block_lt_of_cell? _ _ hw007_4; first | rwa [add_block] at this | exact this) GW011.out)) | (show (Addr.add _ _).block ≠ _; rw [add_block]; exact Nat.ne_of_lt (Nat.lt_of_lt_of_le (by have := World.block_lt_of_cell? _ _ hw007_4; first | rwa [add_block] at this | exact this) GW011.out)) | (dsimp only; exact Nat.ne_of_lt (Nat.lt_of_lt_of_le (by have := World.block_lt_of_cell? _ _ hw007_4; first | rwa [add_block] at this | exact this) GW011.out))) _).trans (((cell_far (p := ⟨gb011, _, none⟩) (by first | exact Nat.ne_of_lt (Nat.lt_of_lt_of_le (by have := World.block_lt_of_cell? _ _ hw007_4; first | rwa [add_block] at this | exact this) GW011.out) | (rw [add_block]; exact Nat.ne_of_lt (Nat.lt_of_lt_of_le (by have := World.block_lt_of_cell? _ _ hw007_4; first | rwa [add_block] at this | exact this) GW011.out)) | (show (Addr.add _ _).block ≠ _; rw [add_block]; exact Nat.ne_of_lt (Nat.lt_of_lt_of_le (by have := World.block_lt_of_cell? _ _ hw007_4; first | rwa [add_block] at this | exact this) GW011.out)) | (dsimp only; exact Nat.ne_of_lt (Nat.lt_of_lt_of_le (by have := World.block_lt_of_cell? _ _ hw007_4; first | rwa [add_block] at this | exact this) GW011.out))) _).trans (((cell_far (p := ⟨gb011, _, none⟩) (by first | exact Nat.ne_of_lt (Nat.lt_of_lt_of_le (by have := World.block_lt_of_cell? _ _ hw007_4; first | rwa [add_block] at this | exact this) GW011.out) | (rw [add_block]; exact Nat.ne_of_lt (Nat.lt_of_lt_of_le (by have := World.block_lt_of_cell? _ _ hw007_4; first | rwa [add_block] at this | exact this) GW011.out)) | (show (Addr.add _ _).block ≠ _; rw [add_block]; exact Nat.ne_of_lt (Nat.lt_of_lt_of_le (by have := World.block_lt_of_cell? _ _ hw007_4; first | rwa [add_block] at this | exact this) GW011.out)) | (dsimp only; exact Nat.ne_of_lt (Nat.lt_of_lt_of_le (by have := World.block_lt_of_cell? _ _ hw007_4; first | rwa [add_block] at this | exact this) GW011.out))) _).trans (hHeld.2.2.2.2.2.2.2.2.2.2.2.2.2.2.2.2.2.2.2))))))))))⟩ (fun hHeld => ?_)
     clear hK K
     refine done_ (done_of HT_.out (by kernel_rfl)) ?_
     try go_wp2
     go_loopg [6] k1 (fun kq v6 w' => ∃ (x6_2 : Int) (x012003_2 : List (S53)) (u012003 : Value), v6 = .int .i64 x6_2 ∧ Aside0 (tinderref08_Copy.l1 kq l0 x3_1 x4_1 x6_2 ((rd_T44 l0 x4_1).f0) t004 ((rd_T44 l0 x4_1).f2) x012003_2 t008 = some r) ∧ Aside0 (kq ≤ k1) ∧ Aside0 (Kd.R k44o 44 w' w.heap.size (fun k_ => some k_ ≠ ((.slice Ao14 t004.length co14) : Value).ownBlock ∧ some k_ ≠ (u012003 : Value).ownBlock ∧ some k_ ≠ ((.slice Ao13 t008.length co13) : Value).ownBlock ∧ k_ ≠ gb011) u3 y3_1) ∧ Aside0 (Kd.R (Kd.int .u32) 66 w' w.heap.size (fun k_ => some k_ ≠ ((.slice Ao13 t008.length co13) : Value).ownBlock) (.slice Ao14 t004.length co14) t004) ∧ Aside0 (Kd.S k53 53 w' w.heap.size (fun _ => True) u012003 x012003_2) ∧ Aside0 (Kd.R (Kd.int .u32) 66 w' w.heap.size (fun k_ => some k_ ≠ ((.slice Ao14 t004.length co14) : Value).ownBlock) (.slice Ao13 t008.length co13) t008) ∧ Aside0 (w'.heap[gb011]? = some (.cells #[.string ((rd_T44 l0 x4_1).f0), (.slice Ao14 t004.length co14), .int .i64 ((rd_T44 l0 x4_1).f2), u012003, (.slice Ao13 t008.length co13)] 44 (0, 0))) ∧ Aside0 (Below w.heap.size w w'))
     case atStart => exact ⟨(0), (([] : List (S53))), (.slice none 0 0), (by first | rfl | (simp; done) | (simp [*]; done)), H', ⟨Nat.le_refl _⟩, ⟨by (with_reducible repeat (first | apply Kd.R_alloc | apply Kd.R_drewN | apply Kd.R_drew)); exact Kd.R_mono (Kd.R_far (p := ⟨gb011, 4, none⟩) (Kd.R_far (p := ⟨gb011, 3, none⟩) (Kd.R_far (p := ⟨gb011, 2, none⟩) (Kd.R_far (p := ⟨gb011, 1, none⟩) (Kd.R_far (p := ⟨gb011, 0, none⟩) (Kd.R_mono HO_3.out (fun k_ hk => (⟨hk, hk.2.2⟩ : _ ∧ k_ ≠ gb011))) (fun _ hk => hk.2) (.string ((rd_T44 l0 x4_1).f0))) (fun _ hk => hk.2) (.slice Ao14 t004.length co14)) (fun _ hk => hk.2) (.int .i64 ((rd_T44 l0 x4_1).f2))) (fun _ hk => hk.2) (.slice none 0 0)) (fun _ hk => hk.2) (.slice Ao13 t008.length co13)) (fun _ hk => ⟨hk.1.1, ⟨(by simp [Value.ownBlock]), ⟨hk.1.2.1, hk.1.2.2⟩⟩⟩)⟩, ⟨by (with_reducible repeat (first | apply Kd.R_alloc | apply Kd.R_drewN | apply Kd.R_drew)); exact Kd.R_mono (Kd.R_far (p := ⟨gb011, 4, none⟩) (Kd.R_far (p := ⟨gb011, 3, none⟩) (Kd.R_far (p := ⟨gb011, 2, none⟩) (Kd.R_far (p := ⟨gb011, 1, none⟩) (Kd.R_far (p := ⟨gb011, 0, none⟩) (Kd.R_types HO006.out BK011.out (by decide)) (fun _ hk => hk.2) (.string ((rd_T44 l0 x4_1).f0))) (fun _ hk => hk.2) (.slice Ao14 t004.length co14)) (fun _ hk => hk.2) (.int .i64 ((rd_T44 l0 x4_1).f2))) (fun _ hk => hk.2) (.slice none 0 0)) (fun _ hk => hk.2) (.slice Ao13 t008.length co13)) (fun _ hk => hk.1)⟩, ⟨by first | exact Kd.S_nil _ _ _ _ _ | exact Kd.N_nil _ _ _ _ _ | exact Kd.V_nil _ _ _ _ _ | exact Kd.Q_nil _ _ _ _ _ | exact Kd.R_nil _ _ _ _ _⟩, ⟨by (with_reducible repeat (first | apply Kd.R_alloc | apply Kd.R_drewN | apply Kd.R_drew)); exact Kd.R_mono (Kd.R_far (p := ⟨gb011, 4, none⟩) (Kd.R_far (p := ⟨gb011, 3, none⟩) (Kd.R_far (p := ⟨gb011, 2, none⟩) (Kd.R_far (p := ⟨gb011, 1, none⟩) (Kd.R_far (p := ⟨gb011, 0, none⟩) (Kd.R_types HO010.out BK011.out (by decide)) (fun _ hk => hk.2) (.string ((rd_T44 l0 x4_1).f0))) (fun _ hk => hk.2) (.slice Ao14 t004.length co14)) (fun _ hk => hk.2) (.int .i64 ((rd_T44 l0 x4_1).f2))) (fun _ hk => hk.2) (.slice none 0 0)) (fun _ hk => hk.2) (.slice Ao13 t008.length co13)) (fun _ hk => hk.1)⟩, ⟨by (with_reducible repeat (first | refine blk_drewN ?_ _ | refine blk_drew ?_ | refine blk_alloc ?_ _)); refine blk_put (cs := #[.string ((rd_T44 l0 x4_1).f0), .slice Ao14 t004.length co14, .int .i64 ((rd_T44 l0 x4_1).f2), .slice none 0 0, .slice none 0 0]) ?_ 4 _ rfl; (with_reducible repeat (first | refine blk_drewN ?_ _ | refine blk_drew ?_ | refine blk_alloc ?_ _)); refine blk_put (cs := #[.string ((rd_T44 l0 x4_1).f0), .slice Ao14 t004.length co14, .int .i64 ((rd_T44 l0 x4_1).f2), .slice none 0 0, .slice none 0 0]) ?_ 3 _ rfl; (with_reducible repeat (first | refine blk_drewN ?_ _ | refine blk_drew ?_ | refine blk_alloc ?_ _)); refine blk_put (cs := #[.string ((rd_T44 l0 x4_1).f0), .slice Ao14 t004.length co14, .int .i64 0, .slice none 0 0, .slice none 0 0]) ?_ 2 _ rfl; (with_reducible repeat (first | refine blk_drewN ?_ _ | refine blk_drew ?_ | refine blk_alloc ?_ _)); refine blk_put (cs := #[.string ((rd_T44 l0 x4_1).f0), .slice none 0 0, .int .i64 0, .slice none 0 0, .slice none 0 0]) ?_ 1 _ rfl; (with_reducible repeat (first | refine blk_drewN ?_ _ | refine blk_drew ?_ | refine blk_alloc ?_ _)); refine blk_put (cs := #[.string (⟨#[]⟩ : ByteArray), .slice none 0 0, .int .i64 0, .slice none 0 0, .slice none 0 0]) ?_ 0 _ rfl; (with_reducible repeat (first | refine blk_drewN ?_ _ | refine blk_drew ?_ | refine blk_alloc ?_ _)); exact BK011.out⟩, ⟨by repeat (first | (with_reducible first | exact HB.out | apply below_alloc | apply pw_below_drewN | apply below_drew1 | refine below_set ?_ GE011.out) | exact HB.out)⟩⟩
     case round =>
      clear H'
      try clear c1
      try clear p1
      try clear q1
      try clear hx1
      try clear p2
      try clear c5
      try clear c19
      try clear p19
      try clear q19
      try clear hx19
      try clear hx001_0
      try clear hx001_1
      try clear hx001_2
      try clear hx001_3
      try clear hx001_4
      try clear hx002_0
      try clear hx002_1
      try clear hx002_2
      try clear hx002_3
      try clear hx002_4
      try clear hx003_0
      try clear hx003_1
      try clear hx003_2
      try clear hx003_3
      try clear hx003_4
      try clear hx007_0
      try clear hx007_1
      try clear hx007_2
      try clear hx007_3
      try clear hx007_4
      try clear p002
      try clear p003
      try clear p007
      try clear q002
      try clear q003
      try clear q007
      obtain ⟨x6_2, x012003_2, u012003, rfl, HA, HK2, HO_3, HO_012001, HO_012003, HO_012004, BK011, HB⟩ := hrel
      cases gk with
      | zero => exact absurd HA.out (by simp [tinderref08_Copy.l1])
      | succ k2 =>
       have H := HA.out
       clear HA
       simp only [tinderref08_Copy.l1] at H
       by_cases c20 : 0 ≤ x4_1
       ·rw [if_pos c20] at H
        have c20b0 : decide (0 ≤ x4_1) = true := decide_eq_true c20
        clear c20
        by_cases c21 : x4_1 < (l0.length : Int)
        ·rw [if_pos c21] at H
         have c21b0 : decide (x4_1 < (l0.length : Int)) = true := decide_eq_true c21
         clear c21
         by_cases c22 : x6_2 < (((rd_T44 l0 x4_1).f3).length : Int)
         ·rw [if_pos c22] at H
          have c22b0 : decide (x6_2 < (((rd_T44 l0 x4_1).f3).length : Int)) = true := decide_eq_true c22
          clear c22
          by_cases c23 : 0 ≤ x6_2
          ·rw [if_pos c23] at H
           have c23b0 : decide (0 ≤ x6_2) = true := decide_eq_true c23
           clear c23
           replace H := Option.bind_eq_some_iff.mp H
           obtain ⟨t017, A240, H⟩ := H
           replace H : (if x012003_2.length < 3518437208883 then (tinderref08_Copy.l1 k2 l0 x3_1 x4_1 (wrap64 (x6_2 + 1)) ((rd_T44 l0 x4_1).f0) t004 ((rd_T44 l0 x4_1).f2) (x012003_2 ++ [(⟨(rd_T53 ((rd_T44 l0 x4_1).f3) x6_2).f0, t017⟩ : S53)]) t008) else (none)) = some r := H
           have A24 := Aside0.mk A240
           clear A240
           by_cases c25 : x012003_2.length < 3518437208883
           ·rw [if_pos c25] at H
            have LMc25 := Aside0.mk c25
            clear c25
            obtain ⟨y020, hy020⟩ : ∃ y_ : List (S53), y_ = (x012003_2 ++ [(⟨(rd_T53 ((rd_T44 l0 x4_1).f3) x6_2).f0, t017⟩ : S53)]) := ⟨_, rfl⟩
            replace H : (tinderref08_Copy.l1 k2 l0 x3_1 x4_1 (wrap64 (x6_2 + 1)) ((rd_T44 l0 x4_1).f0) t004 ((rd_T44 l0 x4_1).f2) y020 t008) = some r := by first | (rw [hy020]; with_reducible exact H) | (have H2_ := (Option.bind_some _ _).symm.trans H; rw [hy020]; with_reducible exact H2_) | (have H2_ := (Option.bind_some _ _).symm.trans H; with_reducible exact H2_) | with_reducible exact H | (rw [hy020]; exact H) | exact H
            have Ny020 := Aside0.mk hy020
            clear hy020
            have H' := Aside0.mk H
            clear H
            have p012 : 0 ≤ (x4_1 : Int) := of_decide_eq_true (by first | (with_reducible assumption) | assumption)
            have q012 : x4_1 < (l0.length : Int) := of_decide_eq_true (by first | (with_reducible assumption) | assumption)
            obtain ⟨ad012, A012_1, c012_1, A012_3, c012_3, A012_4, c012_4, e012, hx012_0, hx012_1, hx012_2, hx012_3, hx012_4, hl012_1, hi012_1, hl012_3, hi012_3, hl012_4, hi012_4⟩ := at_T44 HR0.out x4_1 p012 q012
            obtain rfl : ad001 = ad012 := (by injection e012)
            replace hx012_0 := (HB.out.cell (World.block_lt_of_cell? w _ hx012_0)).trans hx012_0
            replace hx012_1 := (HB.out.cell (World.block_lt_of_cell? w _ hx012_1)).trans hx012_1
            replace hx012_2 := (HB.out.cell (World.block_lt_of_cell? w _ hx012_2)).trans hx012_2
            replace hx012_3 := (HB.out.cell (World.block_lt_of_cell? w _ hx012_3)).trans hx012_3
            replace hx012_4 := (HB.out.cell (World.block_lt_of_cell? w _ hx012_4)).trans hx012_4
            have HR012_1 := Aside0.mk hi012_1
            have HC012_1 := Aside0.mk hl012_1
            clear hi012_1 hl012_1
            have HR012_3 := Aside0.mk hi012_3
            have HC012_3 := Aside0.mk hl012_3
            clear hi012_3 hl012_3
            have HR012_4 := Aside0.mk hi012_4
            have HC012_4 := Aside0.mk hl012_4
            clear hi012_4 hl012_4
            replace p012 := eq_true p012
            replace q012 := eq_true q012
            try go_wp2
            have n0_ := Aside0.mk (Kd.R_drew HO_3.out)
            have n1_ := Aside0.mk (Kd.R_drew HO_012001.out)
            have n2_ := Aside0.mk (Kd.S_drew HO_012003.out)
            have n3_ := Aside0.mk (Kd.R_drew HO_012004.out)
            have n4_ := Aside0.mk (blk_drew BK011.out)
            have n5_ := Aside0.mk (below_drew1 HB.out)
            clear HO_3
            clear HO_012001
            clear HO_012003
            clear HO_012004
            clear BK011
            clear HB
            have HO_3 := n0_
            have HO_012001 := n1_
            have HO_012003 := n2_
            have HO_012004 := n3_
            have BK011 := n4_
            have HB := n5_
            clear n0_ n1_ n2_ n3_ n4_ n5_
            have p013 : 0 ≤ (x4_1 : Int) := of_decide_eq_true (by first | (with_reducible assumption) | assumption)
            have q013 : x4_1 < (l0.length : Int) := of_decide_eq_true (by first | (with_reducible assumption) | assumption)
            obtain ⟨ad013, A013_1, c013_1, A013_3, c013_3, A013_4, c013_4, e013, hx013_0, hx013_1, hx013_2, hx013_3, hx013_4, hl013_1, hi013_1, hl013_3, hi013_3, hl013_4, hi013_4⟩ := at_T44 HR0.out x4_1 p013 q013
            have hw013_4 := hx013_4
            have hw013_3 := hx013_3
            have hw013_2 := hx013_2
            have hw013_1 := hx013_1
            have hw013_0 := hx013_0
            obtain rfl : ad001 = ad013 := (by injection e013)
            replace hx013_0 := (HB.out.cell (World.block_lt_of_cell? w _ hx013_0)).trans hx013_0
            replace hx013_1 := (HB.out.cell (World.block_lt_of_cell? w _ hx013_1)).trans hx013_1
            replace hx013_2 := (HB.out.cell (World.block_lt_of_cell? w _ hx013_2)).trans hx013_2
            replace hx013_3 := (HB.out.cell (World.block_lt_of_cell? w _ hx013_3)).trans hx013_3
            replace hx013_4 := (HB.out.cell (World.block_lt_of_cell? w _ hx013_4)).trans hx013_4
            have HR013_1 := Aside0.mk hi013_1
            have HC013_1 := Aside0.mk hl013_1
            clear hi013_1 hl013_1
            have HR013_3 := Aside0.mk hi013_3
            have HC013_3 := Aside0.mk hl013_3
            clear hi013_3 hl013_3
            have HR013_4 := Aside0.mk hi013_4
            have HC013_4 := Aside0.mk hl013_4
            clear hi013_4 hl013_4
            replace p013 := eq_true p013
            replace q013 := eq_true q013
            have p014 : 0 ≤ (x6_2 : Int) := of_decide_eq_true (by first | (with_reducible assumption) | assumption)
            have q014 : x6_2 < (((rd_T44 l0 x4_1).f3).length : Int) := of_decide_eq_true (by first | (with_reducible assumption) | assumption)
            obtain ⟨ad014, A014_1, c014_1, e014, hx014_0, hx014_1, hl014_1, hi014_1⟩ := at_T53 HR013_3.out x6_2 p014 q014
            have hw014_1 := hx014_1
            have hw014_0 := hx014_0
            cases e014
            replace hx014_0 := (HB.out.cell (World.block_lt_of_cell? w _ hx014_0)).trans hx014_0
            replace hx014_1 := (HB.out.cell (World.block_lt_of_cell? w _ hx014_1)).trans hx014_1
            have HR014_1 := Aside0.mk hi014_1
            have HC014_1 := Aside0.mk hl014_1
            clear hi014_1 hl014_1
            replace p014 := eq_true p014
            replace q014 := eq_true q014
            have p015 : 0 ≤ (x4_1 : Int) := of_decide_eq_true (by first | (with_reducible assumption) | assumption)
            have q015 : x4_1 < (l0.length : Int) := of_decide_eq_true (by first | (with_reducible assumption) | assumption)
            obtain ⟨ad015, A015_1, c015_1, A015_3, c015_3, A015_4, c015_4, e015, hx015_0, hx015_1, hx015_2, hx015_3, hx015_4, hl015_1, hi015_1, hl015_3, hi015_3, hl015_4, hi015_4⟩ := at_T44 HR0.out x4_1 p015 q015
            have hw015_4 := hx015_4
            have hw015_3 := hx015_3
            have hw015_2 := hx015_2
            have hw015_1 := hx015_1
            have hw015_0 := hx015_0
            obtain rfl : ad001 = ad015 := (by injection e015)
            replace hx015_0 := (HB.out.cell (World.block_lt_of_cell? w _ hx015_0)).trans hx015_0
            replace hx015_1 := (HB.out.cell (World.block_lt_of_cell? w _ hx015_1)).trans hx015_1
            replace hx015_2 := (HB.out.cell (World.block_lt_of_cell? w _ hx015_2)).trans hx015_2
            replace hx015_3 := (HB.out.cell (World.block_lt_of_cell? w _ hx015_3)).trans hx015_3
            replace hx015_4 := (HB.out.cell (World.block_lt_of_cell? w _ hx015_4)).trans hx015_4
            have HR015_1 := Aside0.mk hi015_1
            have HC015_1 := Aside0.mk hl015_1
            clear hi015_1 hl015_1
            have HR015_3 := Aside0.mk hi015_3
            have HC015_3 := Aside0.mk hl015_3
            clear hi015_3 hl015_3
            have HR015_4 := Aside0.mk hi015_4
            have HC015_4 := Aside0.mk hl015_4
            clear hi015_4 hl015_4
            replace p015 := eq_true p015
            replace q015 := eq_true q015
            have ea_ := Option.some.inj (hx013_1.symm.trans hx015_1)
            injection ea_ with ea_ en_ ec_
            subst ea_
            subst ec_
            clear en_
            have ea_ := Option.some.inj (hx013_3.symm.trans hx015_3)
            injection ea_ with ea_ en_ ec_
            subst ea_
            subst ec_
            clear en_
            have ea_ := Option.some.inj (hx013_4.symm.trans hx015_4)
            injection ea_ with ea_ en_ ec_
            subst ea_
            subst ec_
            clear en_
            have p016 : 0 ≤ (x6_2 : Int) := of_decide_eq_true (by first | (with_reducible assumption) | assumption)
            have q016 : x6_2 < (((rd_T44 l0 x4_1).f3).length : Int) := of_decide_eq_true (by first | (with_reducible assumption) | assumption)
            obtain ⟨ad016, A016_1, c016_1, e016, hx016_0, hx016_1, hl016_1, hi016_1⟩ := at_T53 HR015_3.out x6_2 p016 q016
            have hw016_1 := hx016_1
            have hw016_0 := hx016_0
            cases e016
            replace hx016_0 := (HB.out.cell (World.block_lt_of_cell? w _ hx016_0)).trans hx016_0
            replace hx016_1 := (HB.out.cell (World.block_lt_of_cell? w _ hx016_1)).trans hx016_1
            have HR016_1 := Aside0.mk hi016_1
            have HC016_1 := Aside0.mk hl016_1
            clear hi016_1 hl016_1
            replace p016 := eq_true p016
            replace q016 := eq_true q016
            refine start_ (n := 26) (S := fun w' => w'.cell? ⟨gb011, 0, none⟩ = some (.string ((rd_T44 l0 x4_1).f0)) ∧ w'.cell? ⟨gb011, 1, none⟩ = some (.slice Ao14 t004.length co14) ∧ w'.cell? ⟨gb011, 2, none⟩ = some (.int .i64 ((rd_T44 l0 x4_1).f2)) ∧ w'.cell? ⟨gb011, 3, none⟩ = some (u012003) ∧ w'.cell? ⟨gb011, 4, none⟩ = some (.slice Ao13 t008.length co13) ∧ w'.cell? (ad001.add ((x4_1).toNat * 5)) = some (.string ((rd_T44 l0 x4_1).f0)) ∧ w'.cell? ⟨(ad001.add ((x4_1).toNat * 5)).block, (ad001.add ((x4_1).toNat * 5)).off + 1, none⟩ = some (.slice A013_1 ((rd_T44 l0 x4_1).f1).length c013_1) ∧ w'.cell? ⟨(ad001.add ((x4_1).toNat * 5)).block, (ad001.add ((x4_1).toNat * 5)).off + 2, none⟩ = some (.int .i64 ((rd_T44 l0 x4_1).f2)) ∧ w'.cell? ⟨(ad001.add ((x4_1).toNat * 5)).block, (ad001.add ((x4_1).toNat * 5)).off + 3, none⟩ = some (.slice (some ad014) ((rd_T44 l0 x4_1).f3).length c013_3) ∧ w'.cell? ⟨(ad001.add ((x4_1).toNat * 5)).block, (ad001.add ((x4_1).toNat * 5)).off + 4, none⟩ = some (.slice A013_4 ((rd_T44 l0 x4_1).f4).length c013_4) ∧ w'.cell? (ad014.add ((x6_2).toNat * 2)) = some (.string ((rd_T53 ((rd_T44 l0 x4_1).f3) x6_2).f0)) ∧ w'.cell? ⟨(ad014.add ((x6_2).toNat * 2)).block, (ad014.add ((x6_2).toNat * 2)).off + 1, none⟩ = some (.slice A014_1 ((rd_T53 ((rd_T44 l0 x4_1).f3) x6_2).f1).length c014_1) ∧ w'.cell? (ad001.add ((x4_1).toNat * 5)) = some (.string ((rd_T44 l0 x4_1).f0)) ∧ w'.cell? ⟨(ad001.add ((x4_1).toNat * 5)).block, (ad001.add ((x4_1).toNat * 5)).off + 1, none⟩ = some (.slice A013_1 ((rd_T44 l0 x4_1).f1).length c013_1) ∧ w'.cell? ⟨(ad001.add ((x4_1).toNat * 5)).block, (ad001.add ((x4_1).toNat * 5)).off + 2, none⟩ = some (.int .i64 ((rd_T44 l0 x4_1).f2)) ∧ w'.cell? ⟨(ad001.add ((x4_1).toNat * 5)).block, (ad001.add ((x4_1).toNat * 5)).off + 3, none⟩ = some (.slice (some ad014) ((rd_T44 l0 x4_1).f3).length c013_3) ∧ w'.cell? ⟨(ad001.add ((x4_1).toNat * 5)).block, (ad001.add ((x4_1).toNat * 5)).off + 4, none⟩ = some (.slice A013_4 ((rd_T44 l0 x4_1).f4).length c013_4) ∧ w'.cell? (ad014.add ((x6_2).toNat * 2)) = some (.string ((rd_T53 ((rd_T44 l0 x4_1).f3) x6_2).f0)) ∧ w'.cell? ⟨(ad014.add ((x6_2).toNat * 2)).block, (ad014.add ((x6_2).toNat * 2)).off + 1, none⟩ = some (.slice A016_1 ((rd_T53 ((rd_T44 l0 x4_1).f3) x6_2).f1).length c016_1)) (ds := [25]) #[false, false, false, false, false, false, false, false, false, false, false, false, false, false, false, false, false, false, false, false, false, false, false, false, false, false] (by kernel_rfl) rfl rfl ⟨(blk_cell BK011.out 0).trans rfl, (blk_cell BK011.out 1).trans rfl, (blk_cell BK011.out 2).trans rfl, (blk_cell BK011.out 3).trans rfl, (blk_cell BK011.out 4).trans rfl, ((HB.out.cell (World.block_lt_of_cell? w _ hw013_0)).trans hw013_0), ((HB.out.cell (World.block_lt_of_cell? w _ hw013_1)).trans hw013_1), ((HB.out.cell (World.block_lt_of_cell? w _ hw013_2)).trans hw013_2), ((HB.out.cell (World.block_lt_of_cell? w _ hw013_3)).trans hw013_3), ((HB.out.cell (World.block_lt_of_cell? w _ hw013_4)).trans hw013_4), ((HB.out.cell (World.block_lt_of_cell? w _ hw014_0)).trans hw014_0), ((HB.out.cell (World.block_lt_of_cell? w _ hw014_1)).trans hw014_1), ((HB.out.cell (World.block_lt_of_cell? w _ hw015_0)).trans hw015_0), ((HB.out.cell (World.block_lt_of_cell? w _ hw015_1)).trans hw015_1), ((HB.out.cell (World.block_lt_of_cell? w _ hw015_2)).trans hw015_2), ((HB.out.cell (World.block_lt_of_cell? w _ hw015_3)).trans hw015_3), ((HB.out.cell (World.block_lt_of_cell? w _ hw015_4)).trans hw015_4), ((HB.out.cell (World.block_lt_of_cell? w _ hw016_0)).trans hw016_0), ((HB.out.cell (World.block_lt_of_cell? w _ hw016_1)).trans hw016_1)⟩ (fun hHeld => ?_); refine with_tabW tinderref08_Copy.tab9 tinderref08_Copy.bits9 (fun HT_ HW_ => ?_)
            generalize wr.drew = w26 at HO_3 HO_012001 HO_012003 HO_012004 BK011 HB HR013_1 HR013_3 HR013_4 HR014_1 HR015_1 HR015_3 HR015_4 HR016_1 hx013_0 hx013_1 hx013_2 hx013_3 hx013_4 hx014_0 hx014_1 hx015_0 hx015_1 hx015_2 hx015_3 hx015_4 hx016_0 hx016_1 hHeld ⊢
            refine pure_ (i := 0) (N := some 46) (v := ?_) (a' := ?_) #[true, false, false, false, false, false, false, false, false, false, false, false, false, false, false, false, false, false, false, false, false, false, false, false, false, false] rfl rfl (any_of HT_.out (by kernel_rfl)) (fun _ _ _ h => h) (Or.inl ⟨by rfl, ?_⟩) ?_ ?_
            rotate_left
            ·intro w'
             go_simp
             with_reducible rfl
            rotate_left
            ·simp only [Act.put, List.setIfInBounds_toArray, List.set_cons_zero, List.set_cons_succ, i64_w, i32_w]
             rfl
            refine pure_ (i := 2) (N := some 48) (v := ?_) (a' := ?_) #[true, false, true, false, false, false, false, false, false, false, false, false, false, false, false, false, false, false, false, false, false, false, false, false, false, false] rfl rfl (any_of HT_.out (by kernel_rfl)) (fun _ _ _ h => h) (Or.inl ⟨by rfl, ?_⟩) ?_ ?_
            rotate_left
            ·intro w'
             go_simp
             with_reducible rfl
            rotate_left
            ·simp only [Act.put, List.setIfInBounds_toArray, List.set_cons_zero, List.set_cons_succ, i64_w, i32_w]
             rfl
            refine pure_ (i := 3) (N := some 49) (v := ?_) (a' := ?_) #[true, false, true, true, false, false, false, false, false, false, false, false, false, false, false, false, false, false, false, false, false, false, false, false, false, false] rfl rfl (any_of HT_.out (by kernel_rfl)) (fun _ _ _ h => h) (Or.inl ⟨by rfl, ?_⟩) ?_ ?_
            rotate_left
            ·intro w'
             go_simp
             with_reducible rfl
            rotate_left
            ·simp only [Act.put, List.setIfInBounds_toArray, List.set_cons_zero, List.set_cons_succ, i64_w, i32_w]
             rfl
            refine pure_ (i := 4) (N := some 50) (v := ?_) (a' := ?_) #[true, false, true, true, true, false, false, false, false, false, false, false, false, false, false, false, false, false, false, false, false, false, false, false, false, false] rfl rfl (any_of HT_.out (by kernel_rfl)) (fun _ _ _ h => h) (Or.inl ⟨by rfl, ?_⟩) ?_ ?_
            rotate_left
            ·intro w'
             go_simp
             with_reducible rfl
            rotate_left
            ·simp only [Act.put, List.setIfInBounds_toArray, List.set_cons_zero, List.set_cons_succ, i64_w, i32_w]
             rfl
            refine pure_ (i := 5) (N := some 51) (v := ?_) (a' := ?_) #[true, false, true, true, true, true, false, false, false, false, false, false, false, false, false, false, false, false, false, false, false, false, false, false, false, false] rfl rfl (any_of HT_.out (by kernel_rfl)) (fun _ _ _ h => h) (Or.inl ⟨by rfl, ?_⟩) ?_ ?_
            rotate_left
            ·intro w'
             go_simp
             with_reducible rfl
            rotate_left
            ·simp only [Act.put, List.setIfInBounds_toArray, List.set_cons_zero, List.set_cons_succ, i64_w, i32_w]
             rfl
            refine pure_ (i := 7) (N := some 53) (v := ?_) (a' := ?_) #[true, false, true, true, true, true, false, true, false, false, false, false, false, false, false, false, false, false, false, false, false, false, false, false, false, false] rfl rfl (any_of HT_.out (by kernel_rfl)) (fun _ _ _ h => h) (Or.inl ⟨by rfl, ?_⟩) ?_ ?_
            rotate_left
            ·intro w'
             go_simp
             with_reducible rfl
            rotate_left
            ·simp only [Act.put, List.setIfInBounds_toArray, List.set_cons_zero, List.set_cons_succ, i64_w, i32_w]
             rfl
            refine pure_ (i := 11) (N := some 57) (v := ?_) (a' := ?_) #[true, false, true, true, true, true, false, true, false, false, false, true, false, false, false, false, false, false, false, false, false, false, false, false, false, false] rfl rfl (any_of HT_.out (by kernel_rfl)) (fun _ _ _ h => h) (Or.inl ⟨by rfl, ?_⟩) ?_ ?_
            rotate_left
            ·intro w'
             go_simp
             with_reducible rfl
            rotate_left
            ·simp only [Act.put, List.setIfInBounds_toArray, List.set_cons_zero, List.set_cons_succ, i64_w, i32_w]
             rfl
            refine pure_ (i := 12) (N := some 58) (v := ?_) (a' := ?_) #[true, false, true, true, true, true, false, true, false, false, false, true, true, false, false, false, false, false, false, false, false, false, false, false, false, false] rfl rfl (any_of HT_.out (by kernel_rfl)) (fun _ _ _ h => h) (Or.inl ⟨by rfl, ?_⟩) ?_ ?_
            rotate_left
            ·intro w'
             go_simp
             with_reducible rfl
            rotate_left
            ·simp only [Act.put, List.setIfInBounds_toArray, List.set_cons_zero, List.set_cons_succ, i64_w, i32_w]
             rfl
            refine pure_ (i := 13) (N := some 59) (v := ?_) (a' := ?_) #[true, false, true, true, true, true, false, true, false, false, false, true, true, true, false, false, false, false, false, false, false, false, false, false, false, false] rfl rfl (any_of HT_.out (by kernel_rfl)) (fun _ _ _ h => h) (Or.inl ⟨by rfl, ?_⟩) ?_ ?_
            rotate_left
            ·intro w'
             go_simp
             with_reducible rfl
            rotate_left
            ·simp only [Act.put, List.setIfInBounds_toArray, List.set_cons_zero, List.set_cons_succ, i64_w, i32_w]
             rfl
            refine pure_ (i := 14) (N := some 60) (v := ?_) (a' := ?_) #[true, false, true, true, true, true, false, true, false, false, false, true, true, true, true, false, false, false, false, false, false, false, false, false, false, false] rfl rfl (any_of HT_.out (by kernel_rfl)) (fun _ _ _ h => h) (Or.inl ⟨by rfl, ?_⟩) ?_ ?_
            rotate_left
            ·intro w'
             go_simp
             with_reducible rfl
            rotate_left
            ·simp only [Act.put, List.setIfInBounds_toArray, List.set_cons_zero, List.set_cons_succ, i64_w, i32_w]
             rfl
            refine pure_ (i := 16) (N := some 62) (v := ?_) (a' := ?_) #[true, false, true, true, true, true, false, true, false, false, false, true, true, true, true, false, true, false, false, false, false, false, false, false, false, false] rfl rfl (any_of HT_.out (by kernel_rfl)) (fun _ _ _ h => h) (Or.inl ⟨by rfl, ?_⟩) ?_ ?_
            rotate_left
            ·intro w'
             go_simp
             with_reducible rfl
            rotate_left
            ·simp only [Act.put, List.setIfInBounds_toArray, List.set_cons_zero, List.set_cons_succ, i64_w, i32_w]
             rfl
            refine take_ (i := 1) (N := some 47) (v := ?_) (a' := ?_) #[true, true, true, true, true, true, false, true, false, false, false, true, true, true, true, false, true, false, false, false, false, false, false, false, false, false] rfl rfl (take_ofW HT_.out HW_.out (by kernel_rfl)) (fun _ _ _ h => h) (Or.inl ⟨by rfl, ?_⟩) hHeld ?_ ?_
            rotate_left
            ·rintro w' ⟨s0, s1, s2, s3, s4, s5, s6, s7, s8, s9, s10, s11, s12, s13, s14, s15, s16, s17, s18⟩
             go_simp
             with_reducible rfl
            rotate_left
            ·simp only [Act.put, List.setIfInBounds_toArray, List.set_cons_zero, List.set_cons_succ, i64_w, i32_w]
             rfl
            refine take_ (i := 6) (N := some 52) (v := ?_) (a' := ?_) #[true, true, true, true, true, true, true, true, false, false, false, true, true, true, true, false, true, false, false, false, false, false, false, false, false, false] rfl rfl (take_ofW HT_.out HW_.out (by kernel_rfl)) (fun _ _ _ h => h) (Or.inl ⟨by rfl, ?_⟩) hHeld ?_ ?_
            rotate_left
            ·rintro w' ⟨s0, s1, s2, s3, s4, s5, s6, s7, s8, s9, s10, s11, s12, s13, s14, s15, s16, s17, s18⟩
             go_simp
             with_reducible rfl
            rotate_left
            ·simp only [Act.put, List.setIfInBounds_toArray, List.set_cons_zero, List.set_cons_succ, i64_w, i32_w]
             rfl
            refine pure_ (i := 8) (N := some 54) (v := ?_) (a' := ?_) #[true, true, true, true, true, true, true, true, true, false, false, true, true, true, true, false, true, false, false, false, false, false, false, false, false, false] rfl rfl (any_of HT_.out (by kernel_rfl)) (fun _ _ _ h => h) (Or.inl ⟨by rfl, ?_⟩) ?_ ?_
            rotate_left
            ·intro w'
             go_simp
             with_reducible rfl
            rotate_left
            ·simp only [Act.put, List.setIfInBounds_toArray, List.set_cons_zero, List.set_cons_succ, i64_w, i32_w]
             rfl
            refine pure_ (i := 9) (N := some 55) (v := ?_) (a' := ?_) #[true, true, true, true, true, true, true, true, true, true, false, true, true, true, true, false, true, false, false, false, false, false, false, false, false, false] rfl rfl (any_of HT_.out (by kernel_rfl)) (fun _ _ _ h => h) (Or.inl ⟨by rfl, ?_⟩) ?_ ?_
            rotate_left
            ·intro w'
             go_simp
             with_reducible rfl
            rotate_left
            ·simp only [Act.put, List.setIfInBounds_toArray, List.set_cons_zero, List.set_cons_succ, i64_w, i32_w]
             rfl
            refine take_ (i := 10) (N := some 56) (v := ?_) (a' := ?_) #[true, true, true, true, true, true, true, true, true, true, true, true, true, true, true, false, true, false, false, false, false, false, false, false, false, false] rfl rfl (take_ofW HT_.out HW_.out (by kernel_rfl)) (fun _ _ _ h => h) (Or.inl ⟨by rfl, ?_⟩) hHeld ?_ ?_
            rotate_left
            ·rintro w' ⟨s0, s1, s2, s3, s4, s5, s6, s7, s8, s9, s10, s11, s12, s13, s14, s15, s16, s17, s18⟩
             go_simp
             with_reducible rfl
            rotate_left
            ·simp only [Act.put, List.setIfInBounds_toArray, List.set_cons_zero, List.set_cons_succ, i64_w, i32_w]
             rfl
            refine take_ (i := 15) (N := some 61) (v := ?_) (a' := ?_) #[true, true, true, true, true, true, true, true, true, true, true, true, true, true, true, true, true, false, false, false, false, false, false, false, false, false] rfl rfl (take_ofW HT_.out HW_.out (by kernel_rfl)) (fun _ _ _ h => h) (Or.inl ⟨by rfl, ?_⟩) hHeld ?_ ?_
            rotate_left
            ·rintro w' ⟨s0, s1, s2, s3, s4, s5, s6, s7, s8, s9, s10, s11, s12, s13, s14, s15, s16, s17, s18⟩
             go_simp
             with_reducible rfl
            rotate_left
            ·simp only [Act.put, List.setIfInBounds_toArray, List.set_cons_zero, List.set_cons_succ, i64_w, i32_w]
             rfl
            refine pure_ (i := 17) (N := some 63) (v := ?_) (a' := ?_) #[true, true, true, true, true, true, true, true, true, true, true, true, true, true, true, true, true, true, false, false, false, false, false, false, false, false] rfl rfl (any_of HT_.out (by kernel_rfl)) (fun _ _ _ h => h) (Or.inl ⟨by rfl, ?_⟩) ?_ ?_
            rotate_left
            ·intro w'
             go_simp
             with_reducible rfl
            rotate_left
            ·simp only [Act.put, List.setIfInBounds_toArray, List.set_cons_zero, List.set_cons_succ, i64_w, i32_w]
             rfl
            refine pure_ (i := 18) (N := some 64) (v := ?_) (a' := ?_) #[true, true, true, true, true, true, true, true, true, true, true, true, true, true, true, true, true, true, true, false, false, false, false, false, false, false] rfl rfl (any_of HT_.out (by kernel_rfl)) (fun _ _ _ h => h) (Or.inl ⟨by rfl, ?_⟩) ?_ ?_
            rotate_left
            ·intro w'
             go_simp
             with_reducible rfl
            rotate_left
            ·simp only [Act.put, List.setIfInBounds_toArray, List.set_cons_zero, List.set_cons_succ, i64_w, i32_w]
             rfl
            refine take_ (i := 19) (N := some 65) (v := ?_) (a' := ?_) #[true, true, true, true, true, true, true, true, true, true, true, true, true, true, true, true, true, true, true, true, false, false, false, false, false, false] rfl rfl (take_ofW HT_.out HW_.out (by kernel_rfl)) (fun _ _ _ h => h) (Or.inl ⟨by rfl, ?_⟩) hHeld ?_ ?_
            rotate_left
            ·rintro w' ⟨s0, s1, s2, s3, s4, s5, s6, s7, s8, s9, s10, s11, s12, s13, s14, s15, s16, s17, s18⟩
             go_simp
             with_reducible rfl
            rotate_left
            ·simp only [Act.put, List.setIfInBounds_toArray, List.set_cons_zero, List.set_cons_succ, i64_w, i32_w]
             rfl
            refine one_ (i := 20) (N := some 66) #[true, true, true, true, true, true, true, true, true, true, true, true, true, true, true, true, true, true, true, true, true, false, false, false, false, false] rfl rfl (one_of HT_.out (by kernel_rfl)) (by decide) (fun K hK => ?_)
            refine goes_ Tryd.func52 (by kernel_rfl) rfl #[.slice A014_1 ((rd_T53 ((rd_T44 l0 x4_1).f3) x6_2).f1).length c014_1] (by rfl) rfl rfl (by (try simp only [List.map_toArray, List.map_cons, List.map_nil]); first | done | rfl | (simp only [List.length_drop, List.length_take]; rfl)) ?_
            with_reducible refine (tinderref04_Copy.calls _ _ ((rd_T53 ((rd_T44 l0 x4_1).f3) x6_2).f1) t017 _ ?side1 ?side2 A24.out).mono ?_
            (case side1 => repeat (first | exact (Kd.C_below HR014_1.out HB.out) | (with_reducible refine Kd.C_alloc ?_ _) | (with_reducible refine Kd.C_drewN ?_ _) | (with_reducible refine Kd.C_drew ?_)))
            (case side2 => exact HC014_1.out)
            rintro e w27 ⟨v018, rfl, ho0, hb⟩
            refine ⟨_, rfl, ?_⟩
            have n0_ := Aside0.mk (Kd.R_elder' (by (with_reducible repeat (first | apply Kd.R_alloc | apply Kd.R_drewN | apply Kd.R_drew)); exact HO_3.out) (Kd.R_base ho0) hb)
            have n1_ := Aside0.mk (Kd.R_below (by (with_reducible repeat (first | apply Kd.R_alloc | apply Kd.R_drewN | apply Kd.R_drew)); exact HO_012001.out) hb)
            have n2_ := Aside0.mk (Kd.S_elder' (by (with_reducible repeat (first | apply Kd.S_alloc | apply Kd.S_drewN | apply Kd.S_drew)); exact HO_012003.out) (Kd.R_base ho0) hb)
            have n3_ := Aside0.mk (Kd.R_below (by (with_reducible repeat (first | apply Kd.R_alloc | apply Kd.R_drewN | apply Kd.R_drew)); exact HO_012004.out) hb)
            have n4_ := Aside0.mk (Kd.R_lower ho0 (below_size (by repeat (first | (with_reducible first | exact HB.out | apply below_alloc | apply pw_below_drewN | apply below_drew1 | refine below_set ?_ GE011.out) | exact HB.out))))
            have n5_ := Aside0.mk (blk_below (g := gb011) (o := .cells #[.string ((rd_T44 l0 x4_1).f0), .slice Ao14 t004.length co14, .int .i64 ((rd_T44 l0 x4_1).f2), u012003, .slice Ao13 t008.length co13] 44 (0, 0)) (by (with_reducible repeat (first | refine blk_drewN ?_ _ | refine blk_drew ?_ | refine blk_alloc ?_ _)); exact BK011.out) hb)
            have n6_ := Aside0.mk (below_step (by repeat (first | (with_reducible first | exact HB.out | apply below_alloc | apply pw_below_drewN | apply below_drew1 | refine below_set ?_ GE011.out) | exact HB.out)) hb)
            clear HO_3
            clear HO_012001
            clear HO_012003
            clear HO_012004
            clear BK011
            clear HB
            have HO_3 := n0_
            have HO_012001 := n1_
            have HO_012003 := n2_
            have HO_012004 := n3_
            have HO019 := n4_
            have BK011 := n5_
            have HB := n6_
            clear n0_ n1_ n2_ n3_ n4_ n5_ n6_
            (try clear hb)
            (try clear hb2)
            (try clear hk)
            (try clear hi)
            (try clear ho0)
            obtain ⟨Ao28, co28, eo28⟩ := Kd.R_slice HO019.out
            (first | subst eo28 | (injection eo28 with f1_ f2_ f3_; have f4_ := f1_.symm; have f5_ := f3_.symm; clear f1_ f2_ f3_; subst f4_; subst f5_))
            refine hK.out _ _ ⟨(blk_cell BK011.out 0).trans rfl, (blk_cell BK011.out 1).trans rfl, (blk_cell BK011.out 2).trans rfl, (blk_cell BK011.out 3).trans rfl, (blk_cell BK011.out 4).trans rfl, ((HB.out.cell (World.block_lt_of_cell? w _ hw013_0)).trans hw013_0), ((HB.out.cell (World.block_lt_of_cell? w _ hw013_1)).trans hw013_1), ((HB.out.cell (World.block_lt_of_cell? w _ hw013_2)).trans hw013_2), ((HB.out.cell (World.block_lt_of_cell? w _ hw013_3)).trans hw013_3), ((HB.out.cell (World.block_lt_of_cell? w _ hw013_4)).trans hw013_4), ((HB.out.cell (World.block_lt_of_cell? w _ hw014_0)).trans hw014_0), ((HB.out.cell (World.block_lt_of_cell? w _ hw014_1)).trans hw014_1), ((HB.out.cell (World.block_lt_of_cell? w _ hw015_0)).trans hw015_0), ((HB.out.cell (World.block_lt_of_cell? w _ hw015_1)).trans hw015_1), ((HB.out.cell (World.block_lt_of_cell? w _ hw015_2)).trans hw015_2), ((HB.out.cell (World.block_lt_of_cell? w _ hw015_3)).trans hw015_3), ((HB.out.cell (World.block_lt_of_cell? w _ hw015_4)).trans hw015_4), ((HB.out.cell (World.block_lt_of_cell? w _ hw016_0)).trans hw016_0), ((HB.out.cell (World.block_lt_of_cell? w _ hw016_1)).trans hw016_1)⟩ (fun hHeld => ?_)
            clear hK K
            refine norm_ (a' := ?_) ?_ ?_
            rotate_left
            ·show Act.put _ (some 66) _ = _
             simp only [Act.put, List.setIfInBounds_toArray, List.set_cons_zero, List.set_cons_succ, i64_w, i32_w]
             rfl
            refine pure_ (i := 21) (N := some 67) (v := ?_) (a' := ?_) #[true, true, true, true, true, true, true, true, true, true, true, true, true, true, true, true, true, true, true, true, true, true, false, false, false, false] rfl rfl (any_of HT_.out (by kernel_rfl)) (fun _ _ _ h => h) (Or.inl ⟨by rfl, ?_⟩) ?_ ?_
            rotate_left
            ·intro w'
             go_simp
             with_reducible rfl
            rotate_left
            ·simp only [Act.put, List.setIfInBounds_toArray, List.set_cons_zero, List.set_cons_succ, i64_w, i32_w]
             rfl
            refine one_ (i := 22) (N := some 68) #[true, true, true, true, true, true, true, true, true, true, true, true, true, true, true, true, true, true, true, true, true, true, true, false, false, false] rfl rfl (one_of HT_.out (by kernel_rfl)) (by decide) (fun K hK => ?_)
            refine value_ (w1 := ?_) (v := ?_) (by rfl) rfl ?_ ?_
            rotate_left 2
            ·go_simp
             constructor
             ·rfl
             ·rfl
            refine hK.out _ _ ⟨(blk_cell (blk_alloc BK011.out _) 0).trans rfl, (blk_cell (blk_alloc BK011.out _) 1).trans rfl, (blk_cell (blk_alloc BK011.out _) 2).trans rfl, (blk_cell (blk_alloc BK011.out _) 3).trans rfl, (blk_cell (blk_alloc BK011.out _) 4).trans rfl, (World.cell?_alloc_lt _ _ _ (World.block_lt_of_cell? _ _ (((HB.out.cell (World.block_lt_of_cell? w _ hw013_0)).trans hw013_0)))).trans (((HB.out.cell (World.block_lt_of_cell? w _ hw013_0)).trans hw013_0)), (World.cell?_alloc_lt _ _ _ (World.block_lt_of_cell? _ _ (((HB.out.cell (World.block_lt_of_cell? w _ hw013_1)).trans hw013_1)))).trans (((HB.out.cell (World.block_lt_of_cell? w _ hw013_1)).trans hw013_1)), (World.cell?_alloc_lt _ _ _ (World.block_lt_of_cell? _ _ (((HB.out.cell (World.block_lt_of_cell? w _ hw013_2)).trans hw013_2)))).trans (((HB.out.cell (World.block_lt_of_cell? w _ hw013_2)).trans hw013_2)), (World.cell?_alloc_lt _ _ _ (World.block_lt_of_cell? _ _ (((HB.out.cell (World.block_lt_of_cell? w _ hw013_3)).trans hw013_3)))).trans (((HB.out.cell (World.block_lt_of_cell? w _ hw013_3)).trans hw013_3)), (World.cell?_alloc_lt _ _ _ (World.block_lt_of_cell? _ _ (((HB.out.cell (World.block_lt_of_cell? w _ hw013_4)).trans hw013_4)))).trans (((HB.out.cell (World.block_lt_of_cell? w _ hw013_4)).trans hw013_4)), (World.cell?_alloc_lt _ _ _ (World.block_lt_of_cell? _ _ (((HB.out.cell (World.block_lt_of_cell? w _ hw014_0)).trans hw014_0)))).trans (((HB.out.cell (World.block_lt_of_cell? w _ hw014_0)).trans hw014_0)), (World.cell?_alloc_lt _ _ _ (World.block_lt_of_cell? _ _ (((HB.out.cell (World.block_lt_of_cell? w _ hw014_1)).trans hw014_1)))).trans (((HB.out.cell (World.block_lt_of_cell? w _ hw014_1)).trans hw014_1)), (World.cell?_alloc_lt _ _ _ (World.block_lt_of_cell? _ _ (((HB.out.cell (World.block_lt_of_cell? w _ hw015_0)).trans hw015_0)))).trans (((HB.out.cell (World.block_lt_of_cell? w _ hw015_0)).trans hw015_0)), (World.cell?_alloc_lt _ _ _ (World.block_lt_of_cell? _ _ (((HB.out.cell (World.block_lt_of_cell? w _ hw015_1)).trans hw015_1)))).trans (((HB.out.cell (World.block_lt_of_cell? w _ hw015_1)).trans hw015_1)), (World.cell?_alloc_lt _ _ _ (World.block_lt_of_cell? _ _ (((HB.out.cell (World.block_lt_of_cell? w _ hw015_2)).trans hw015_2)))).trans (((HB.out.cell (World.block_lt_of_cell? w _ hw015_2)).trans hw015_2)), (World.cell?_alloc_lt _ _ _ (World.block_lt_of_cell? _ _ (((HB.out.cell (World.block_lt_of_cell? w _ hw015_3)).trans hw015_3)))).trans (((HB.out.cell (World.block_lt_of_cell? w _ hw015_3)).trans hw015_3)), (World.cell?_alloc_lt _ _ _ (World.block_lt_of_cell? _ _ (((HB.out.cell (World.block_lt_of_cell? w _ hw015_4)).trans hw015_4)))).trans (((HB.out.cell (World.block_lt_of_cell? w _ hw015_4)).trans hw015_4)), (World.cell?_alloc_lt _ _ _ (World.block_lt_of_cell? _ _ (((HB.out.cell (World.block_lt_of_cell? w _ hw016_0)).trans hw016_0)))).trans (((HB.out.cell (World.block_lt_of_cell? w _ hw016_0)).trans hw016_0)), (World.cell?_alloc_lt _ _ _ (World.block_lt_of_cell? _ _ (((HB.out.cell (World.block_lt_of_cell? w _ hw016_1)).trans hw016_1)))).trans (((HB.out.cell (World.block_lt_of_cell? w _ hw016_1)).trans hw016_1))⟩ (fun hHeld => ?_)
            clear hK K
            refine norm_ (a' := ?_) ?_ ?_
            rotate_left
            ·show Act.put _ (some 68) _ = _
             simp only [Act.put, List.setIfInBounds_toArray, List.set_cons_zero, List.set_cons_succ, i64_w, i32_w]
             rfl
            refine one_ (i := 23) (N := some 69) #[true, true, true, true, true, true, true, true, true, true, true, true, true, true, true, true, true, true, true, true, true, true, true, true, false, false] rfl rfl (one_of HT_.out (by kernel_rfl)) (by decide) (fun K hK => ?_)
            refine Kd.S_append_step k53 (w0 := w) w.heap.size (by rfl) (.tmp 47) (.tmp 68) 42 53 (.agg #[(.string ⟨#[]⟩), (.slice none 0 0)]) 40 rfl Tryd.underlying42 info53 rfl (by decide) (by omega) u012003 x012003_2 (⟨(rd_T53 ((rd_T44 l0 x4_1).f3) x6_2).f0, t017⟩ : S53) [.string ((rd_T53 ((rd_T44 l0 x4_1).f3) x6_2).f0), .slice Ao28 t017.length co28] (fun _ => True) (fun k_ => some k_ = (.slice Ao28 t017.length co28 : Value).ownBlock) rfl rfl ?aP (fun k_ hk_ => ((Kd.R_mono (ok' := fun k_ => ((fun _ => True)) k_ ∧ some k_ ≠ (u012003 : Value).ownBlock) (Kd.R_apart' (HO019.out) (Kd.S_typed HO_012003.out) (by decide)) (fun k_ hk => ⟨trivial, hk.2⟩))).1 k_ hk_.symm) ?aF ?aO ?aB ?aS ?aL ?_
            (case aP => exact k53_mkM _ _ _ (⟨(rd_T53 ((rd_T44 l0 x4_1).f3) x6_2).f0, t017⟩ : S53) (Kd.R_mono (Kd.R_tight rfl (Kd.R_mono (ok' := fun k_ => ((fun _ => True)) k_ ∧ some k_ ≠ (u012003 : Value).ownBlock) (Kd.R_apart' (HO019.out) (Kd.S_typed HO_012003.out) (by decide)) (fun k_ hk => ⟨trivial, hk.2⟩))) (fun _ h_ => h_)))
            (case aB => exact (by repeat (first | (with_reducible first | exact HB.out | apply below_alloc | apply pw_below_drewN | apply below_drew1 | refine below_set ?_ GE011.out) | exact HB.out)))
            (case aF => exact (fun _ _ => trivial))
            (case aO => exact (by (with_reducible repeat (first | apply Kd.S_alloc | apply Kd.S_drewN | apply Kd.S_drew)); exact Kd.S_mono HO_012003.out (fun k_ hk => ⟨trivial, fun e_ => hk.2 e_⟩)))
            (case aS => exact (below_size (by repeat (first | (with_reducible first | exact HB.out | apply below_alloc | apply pw_below_drewN | apply below_drew1 | refine below_set ?_ GE011.out) | exact HB.out))))
            (case aL => have := LMc25.out; omega)
            intro v021 w29 ho hb hg hat
            rw [← Ny020.out] at ho
            have n0_ := Aside0.mk (Kd.R_after (ok := (fun k_ => some k_ ≠ (.slice Ao14 t004.length co14 : Value).ownBlock ∧ some k_ ≠ (.slice Ao13 t008.length co13 : Value).ownBlock ∧ some k_ ≠ (.slice Ao28 t017.length co28 : Value).ownBlock ∧ k_ ≠ gb011)) (by (with_reducible repeat (first | apply Kd.R_alloc | apply Kd.R_drewN | apply Kd.R_drew)); exact Kd.R_mono HO_3.out (fun _ hk => ⟨⟨hk.1.1, ⟨hk.1.2.2.1, ⟨hk.2, hk.1.2.2.2⟩⟩⟩, hk.1.2.1⟩)) hg hat)
            have n1_ := Aside0.mk (Kd.R_over' (by (with_reducible repeat (first | apply Kd.R_alloc | apply Kd.R_drewN | apply Kd.R_drew)); exact HO_012001.out) (Kd.S_typed (by (with_reducible repeat (first | apply Kd.S_alloc | apply Kd.S_drewN | apply Kd.S_drew)); exact HO_012003.out)) (by decide) hg)
            have n2_ := Aside0.mk (Kd.R_over' (by (with_reducible repeat (first | apply Kd.R_alloc | apply Kd.R_drewN | apply Kd.R_drew)); exact HO_012004.out) (Kd.S_typed (by (with_reducible repeat (first | apply Kd.S_alloc | apply Kd.S_drewN | apply Kd.S_drew)); exact HO_012003.out)) (by decide) hg)
            have n3_ := Aside0.mk (blk_grown (g := gb011) (o := .cells #[.string ((rd_T44 l0 x4_1).f0), .slice Ao14 t004.length co14, .int .i64 ((rd_T44 l0 x4_1).f2), u012003, .slice Ao13 t008.length co13] 44 (0, 0)) (by (with_reducible repeat (first | refine blk_drewN ?_ _ | refine blk_drew ?_ | refine blk_alloc ?_ _)); exact BK011.out) hg (Kd.S_ne HO_012003.out BK011.out (by decide)))
            have n4_ := Aside0.mk (hb)
            have n5_ := Aside0.mk (ho)
            clear HO_3
            clear HO_012001
            clear HO_012004
            clear BK011
            clear HB
            clear HO_012003
            clear HO019
            have HO_3 := n0_
            have HO_012001 := n1_
            have HO_012004 := n2_
            have BK011 := n3_
            have HB := n4_
            have HO022 := n5_
            clear n0_ n1_ n2_ n3_ n4_ n5_
            clear ho hb hg hat
            obtain ⟨Ao30, co30, eo30⟩ := Kd.S_slice HO022.out
            (first | subst eo30 | (injection eo30 with f1_ f2_ f3_; have f4_ := f1_.symm; have f5_ := f3_.symm; clear f1_ f2_ f3_; subst f4_; subst f5_))
            refine hK.out _ _ ⟨(blk_cell BK011.out 0).trans rfl, (blk_cell BK011.out 1).trans rfl, (blk_cell BK011.out 2).trans rfl, (blk_cell BK011.out 3).trans rfl, (blk_cell BK011.out 4).trans rfl, ((HB.out.cell (World.block_lt_of_cell? w _ hw013_0)).trans hw013_0), ((HB.out.cell (World.block_lt_of_cell? w _ hw013_1)).trans hw013_1), ((HB.out.cell (World.block_lt_of_cell? w _ hw013_2)).trans hw013_2), ((HB.out.cell (World.block_lt_of_cell? w _ hw013_3)).trans hw013_3), ((HB.out.cell (World.block_lt_of_cell? w _ hw013_4)).trans hw013_4), ((HB.out.cell (World.block_lt_of_cell? w _ hw014_0)).trans hw014_0), ((HB.out.cell (World.block_lt_of_cell? w _ hw014_1)).trans hw014_1), ((HB.out.cell (World.block_lt_of_cell? w _ hw015_0)).trans hw015_0), ((HB.out.cell (World.block_lt_of_cell? w _ hw015_1)).trans hw015_1), ((HB.out.cell (World.block_lt_of_cell? w _ hw015_2)).trans hw015_2), ((HB.out.cell (World.block_lt_of_cell? w _ hw015_3)).trans hw015_3), ((HB.out.cell (World.block_lt_of_cell? w _ hw015_4)).trans hw015_4), ((HB.out.cell (World.block_lt_of_cell? w _ hw016_0)).trans hw016_0), ((HB.out.cell (World.block_lt_of_cell? w _ hw016_1)).trans hw016_1)⟩ (fun hHeld => ?_)
            clear hK K
            refine norm_ (a' := ?_) ?_ ?_
            rotate_left
            ·show Act.put _ (some 69) _ = _
             simp only [Act.put, List.setIfInBounds_toArray, List.set_cons_zero, List.set_cons_succ, i64_w, i32_w]
             rfl
            refine pure_ (i := 24) (N := some 70) (v := ?_) (a' := ?_) #[true, true, true, true, true, true, true, true, true, true, true, true, true, true, true, true, true, true, true, true, true, true, true, true, true, false] rfl rfl (any_of HT_.out (by kernel_rfl)) (fun _ _ _ h => h) (Or.inl ⟨by rfl, ?_⟩) ?_ ?_
            rotate_left
            ·intro w'
             go_simp
             with_reducible rfl
            rotate_left
            ·simp only [Act.put, List.setIfInBounds_toArray, List.set_cons_zero, List.set_cons_succ, i64_w, i32_w]
             rfl
            refine last_ (i := 25) (N := none) #[true, true, true, true, true, true, true, true, true, true, true, true, true, true, true, true, true, true, true, true, true, true, true, true, true, true] rfl rfl (one_of HT_.out (by kernel_rfl)) (by decide) (fun K hK => ?_)
            have hs31 : w29.cell? ⟨gb011, 3, none⟩ = some (u012003) := (blk_cell BK011.out 3).trans rfl
            have hfs31 := blk_frozen BK011.out 3
            refine skip_ (w1 := ?_) (by rfl) rfl ?_ ?_
            rotate_left
            ·go_simp
             rfl
            refine hK.out _ _ ?_
            clear hK K
            refine done_ (done_of HT_.out (by kernel_rfl)) ?_
            try go_wp2
            go_roundg k2
            case measure => have := HK1.out; have := HK2.out; omega
            case rel => exact ⟨(wrap64 (x6_2 + 1)), (y020), (.slice Ao30 y020.length co30), (by first | rfl | (simp; done) | (simp [*]; done)), H', ⟨by have := HK1.out; have := HK2.out; omega⟩, ⟨by (with_reducible repeat (first | apply Kd.R_alloc | apply Kd.R_drewN | apply Kd.R_drew)); exact Kd.R_mono (Kd.R_far (p := ⟨gb011, 3, none⟩) (Kd.R_mono HO_3.out (fun k_ hk => (⟨hk, hk.1.2.2.2⟩ : _ ∧ k_ ≠ gb011))) (fun _ hk => hk.2) (.slice Ao30 y020.length co30)) (fun _ hk => ⟨hk.1.1.1, ⟨hk.1.2, ⟨hk.1.1.2.1, hk.1.1.2.2.2⟩⟩⟩)⟩, ⟨by (with_reducible repeat (first | apply Kd.R_alloc | apply Kd.R_drewN | apply Kd.R_drew)); exact Kd.R_mono (Kd.R_far (p := ⟨gb011, 3, none⟩) (Kd.R_types HO_012001.out BK011.out (by decide)) (fun _ hk => hk.2) (.slice Ao30 y020.length co30)) (fun _ hk => hk.1)⟩, ⟨by (with_reducible repeat (first | apply Kd.S_alloc | apply Kd.S_drewN | apply Kd.S_drew)); exact Kd.S_mono (Kd.S_far (p := ⟨gb011, 3, none⟩) (Kd.S_types HO022.out BK011.out (by decide)) (fun _ hk => hk.2) (.slice Ao30 y020.length co30)) (fun _ hk => trivial)⟩, ⟨by (with_reducible repeat (first | apply Kd.R_alloc | apply Kd.R_drewN | apply Kd.R_drew)); exact Kd.R_mono (Kd.R_far (p := ⟨gb011, 3, none⟩) (Kd.R_types HO_012004.out BK011.out (by decide)) (fun _ hk => hk.2) (.slice Ao30 y020.length co30)) (fun _ hk => hk.1)⟩, ⟨by (with_reducible repeat (first | refine blk_drewN ?_ _ | refine blk_drew ?_ | refine blk_alloc ?_ _)); refine blk_put (cs := #[.string ((rd_T44 l0 x4_1).f0), .slice Ao14 t004.length co14, .int .i64 ((rd_T44 l0 x4_1).f2), u012003, .slice Ao13 t008.length co13]) ?_ 3 _ rfl; (with_reducible repeat (first | refine blk_drewN ?_ _ | refine blk_drew ?_ | refine blk_alloc ?_ _)); exact BK011.out⟩, ⟨by repeat (first | (with_reducible first | exact HB.out | apply below_alloc | apply pw_below_drewN | apply below_drew1 | refine below_set ?_ GE011.out) | exact HB.out)⟩⟩
           ·rw [if_neg c25] at H
            exact absurd H (by simp)
          ·rw [if_neg c23] at H
           exact absurd H (by simp)
         ·rw [if_neg c22] at H
          have c22b0 : decide (x6_2 < (((rd_T44 l0 x4_1).f3).length : Int)) = false := decide_eq_false c22
          clear c22
          by_cases c32 : x3_1.length < 1466015503701
          ·rw [if_pos c32] at H
           have LMc32 := Aside0.mk c32
           clear c32
           obtain ⟨y023, hy023⟩ : ∃ y_ : List (S44), y_ = (x3_1 ++ [(⟨((rd_T44 l0 x4_1).f0), t004, ((rd_T44 l0 x4_1).f2), x012003_2, t008⟩ : S44)]) := ⟨_, rfl⟩
           replace H : (tinderref08_Copy.l0 k2 l0 y023 (wrap64 (x4_1 + 1))) = some r := by first | (rw [hy023]; with_reducible exact H) | (have H2_ := (Option.bind_some _ _).symm.trans H; rw [hy023]; with_reducible exact H2_) | (have H2_ := (Option.bind_some _ _).symm.trans H; with_reducible exact H2_) | with_reducible exact H | (rw [hy023]; exact H) | exact H
           have Ny023 := Aside0.mk hy023
           clear hy023
           have H' := Aside0.mk H
           clear H
           have p012 : 0 ≤ (x4_1 : Int) := of_decide_eq_true (by first | (with_reducible assumption) | assumption)
           have q012 : x4_1 < (l0.length : Int) := of_decide_eq_true (by first | (with_reducible assumption) | assumption)
           obtain ⟨ad012, A012_1, c012_1, A012_3, c012_3, A012_4, c012_4, e012, hx012_0, hx012_1, hx012_2, hx012_3, hx012_4, hl012_1, hi012_1, hl012_3, hi012_3, hl012_4, hi012_4⟩ := at_T44 HR0.out x4_1 p012 q012
           obtain rfl : ad001 = ad012 := (by injection e012)
           replace hx012_0 := (HB.out.cell (World.block_lt_of_cell? w _ hx012_0)).trans hx012_0
           replace hx012_1 := (HB.out.cell (World.block_lt_of_cell? w _ hx012_1)).trans hx012_1
           replace hx012_2 := (HB.out.cell (World.block_lt_of_cell? w _ hx012_2)).trans hx012_2
           replace hx012_3 := (HB.out.cell (World.block_lt_of_cell? w _ hx012_3)).trans hx012_3
           replace hx012_4 := (HB.out.cell (World.block_lt_of_cell? w _ hx012_4)).trans hx012_4
           have HR012_1 := Aside0.mk hi012_1
           have HC012_1 := Aside0.mk hl012_1
           clear hi012_1 hl012_1
           have HR012_3 := Aside0.mk hi012_3
           have HC012_3 := Aside0.mk hl012_3
           clear hi012_3 hl012_3
           have HR012_4 := Aside0.mk hi012_4
           have HC012_4 := Aside0.mk hl012_4
           clear hi012_4 hl012_4
           replace p012 := eq_true p012
           replace q012 := eq_true q012
           have hcz33_0 : wr.cell? ⟨gb011, 0, none⟩ = some (.string ((rd_T44 l0 x4_1).f0)) := (blk_cell BK011.out 0).trans rfl
           have hcz33_1 : wr.cell? ⟨gb011, 1, none⟩ = some (.slice Ao14 t004.length co14) := (blk_cell BK011.out 1).trans rfl
           have hcz33_2 : wr.cell? ⟨gb011, 2, none⟩ = some (.int .i64 ((rd_T44 l0 x4_1).f2)) := (blk_cell BK011.out 2).trans rfl
           have hcz33_3 : wr.cell? ⟨gb011, 3, none⟩ = some (u012003) := (blk_cell BK011.out 3).trans rfl
           have hcz33_4 : wr.cell? ⟨gb011, 4, none⟩ = some (.slice Ao13 t008.length co13) := (blk_cell BK011.out 4).trans rfl
           have hfz33_0 := blk_frozen BK011.out 0
           have hfz33_1 := blk_frozen BK011.out 1
           have hfz33_2 := blk_frozen BK011.out 2
           have hfz33_3 := blk_frozen BK011.out 3
           have hfz33_4 := blk_frozen BK011.out 4
           obtain ⟨Ao35, co35, eo35⟩ := Kd.S_slice HO_012003.out
           subst eo35
           go_wp2_with (first | ((with_reducible refine gate_builtin (b := .append) (xs := #[.tmp 71, .tmp 73]) rfl ?_); at_builtin; refine Kd.R_append k44o (w0 := w) w.heap.size rfl (.tmp 71) (.tmp 73) 22 44 (.agg #[(.string ⟨#[]⟩), (.slice none 0 0), (.int .i64 0), (.slice none 0 0), (.slice none 0 0)]) 96 rfl Tryd.underlying22 info44 rfl (by decide) (by omega) u3 y3_1 ((⟨((rd_T44 l0 x4_1).f0), t004, ((rd_T44 l0 x4_1).f2), x012003_2, t008⟩ : S44), (.slice Ao35 x012003_2.length co35 : Value).ownBlock) [.string ((rd_T44 l0 x4_1).f0), .slice Ao14 t004.length co14, .int .i64 ((rd_T44 l0 x4_1).f2), .slice Ao35 x012003_2.length co35, .slice Ao13 t008.length co13] (fun k_ => k_ ≠ gb011) (fun k_ => ((fun k_ => k_ ≠ gb011)) k_ ∧ some k_ ≠ (u3 : Value).ownBlock) rfl rfl ?aP (fun _ hk => hk) ?aF ?aO ?aB ?aS ?aL ?_; (case aP => exact ⟨k44_mkM _ _ _ (⟨((rd_T44 l0 x4_1).f0), t004, ((rd_T44 l0 x4_1).f2), x012003_2, t008⟩ : S44) (Kd.R_mono (Kd.R_types (Kd.R_apart' (HO_012001.out) (Kd.R_typed HO_3.out) (by decide)) BK011.out (by decide)) (fun k_ hk => ⟨hk.2, hk.1.2⟩)) (Kd.R_mono (Kd.R_types (Kd.R_apart' ((Kd.S_R HO_012003.out)) (Kd.R_typed HO_3.out) (by decide)) BK011.out (by decide)) (fun k_ hk => ⟨hk.2, hk.1.2⟩)) (Kd.R_mono (Kd.R_types (Kd.R_apart' (HO_012004.out) (Kd.R_typed HO_3.out) (by decide)) BK011.out (by decide)) (fun k_ hk => ⟨hk.2, hk.1.2⟩)), rfl⟩); (case aB => exact (by repeat (first | (with_reducible first | exact HB.out | apply below_alloc | apply pw_below_drewN | apply below_drew1 | refine below_set ?_ GE011.out) | exact HB.out))); (case aF => exact (fun k_ hk => Kd.freshB (g := gb011) (o := .cells #[.string ((rd_T44 l0 x4_1).f0), .slice Ao14 t004.length co14, .int .i64 ((rd_T44 l0 x4_1).f2), .slice Ao35 x012003_2.length co35, .slice Ao13 t008.length co13] 44 (0, 0)) (by (with_reducible repeat (first | refine blk_drewN ?_ _ | refine blk_drew ?_ | refine blk_alloc ?_ _)); exact BK011.out) k_ hk)); (case aO => exact (by (with_reducible repeat (first | apply Kd.R_alloc | apply Kd.R_drewN | apply Kd.R_drew)); exact Kd.R_mono HO_3.out (fun _ hk => hk.2.2.2))); (case aS => exact (below_size (by repeat (first | (with_reducible first | exact HB.out | apply below_alloc | apply pw_below_drewN | apply below_drew1 | refine below_set ?_ GE011.out) | exact HB.out)))); (case aL => have := LMc32.out; have := OY_len HOY.out; omega); intro v024 w34 ho hb hg hat; have HOY2 := Aside0.mk (OY_snoc HOY.out HO_3.out (⟨((rd_T44 l0 x4_1).f0), t004, ((rd_T44 l0 x4_1).f2), x012003_2, t008⟩ : S44) (.slice Ao35 x012003_2.length co35 : Value).ownBlock (fun k_ hk => hk.2.1)); have n0_ := Aside0.mk (blk_grown (g := gb011) (o := .cells #[.string ((rd_T44 l0 x4_1).f0), .slice Ao14 t004.length co14, .int .i64 ((rd_T44 l0 x4_1).f2), .slice Ao35 x012003_2.length co35, .slice Ao13 t008.length co13] 44 (0, 0)) (by (with_reducible repeat (first | refine blk_drewN ?_ _ | refine blk_drew ?_ | refine blk_alloc ?_ _)); exact BK011.out) hg (Kd.R_away HO_3.out (fun _ hk => hk.2.2.2))); have n1_ := Aside0.mk (hb); have n2_ := Aside0.mk (ho); clear BK011; clear HB; clear HO_3; clear HO_012001; clear HO_012003; clear HO_012004; have BK011 := n0_; have HB := n1_; have HO025 := n2_; clear n0_ n1_ n2_; clear ho hb hg hat))
           go_roundg k2
           case measure => have := HK1.out; have := HK2.out; omega
           case rel => exact ⟨(y023), (wrap64 (x4_1 + 1)), (by first | rfl | (simp; done) | (simp [*]; done)), H', ⟨by have := HK1.out; have := HK2.out; omega⟩, ⟨⟨_, by rw [Ny023.out]; exact HOY2.out, by (with_reducible repeat (first | apply Kd.R_alloc | apply Kd.R_drewN | apply Kd.R_drew)); exact Kd.R_mono HO025.out (fun _ hk => trivial)⟩⟩, ⟨by repeat (first | (with_reducible first | exact HB.out | apply below_alloc | apply pw_below_drewN | apply below_drew1 | refine below_set ?_ GE011.out) | exact HB.out)⟩⟩
          ·rw [if_neg c32] at H
           exact absurd H (by simp)
        ·rw [if_neg c21] at H
         exact absurd H (by simp)
       ·rw [if_neg c20] at H
        exact absurd H (by simp)
    ·rw [if_neg c3] at H
     exact absurd H (by simp)
   ·rw [if_neg c2] at H
    have c2b0 : decide (x4_1 < (l0.length : Int)) = false := decide_eq_false c2
    clear c2
    obtain rfl := Option.some.inj H
    go_wp2
    go_ret
    exact ⟨_, by first | rfl | (simp [errW_none, errW_some] <;> rfl) | (simp [*, errW_none, errW_some] <;> rfl), ⟨y3_1, HOY.out, by (with_reducible repeat (first | apply Kd.R_alloc | apply Kd.R_drewN | apply Kd.R_drew)); exact HO_3.out⟩, by repeat (first | (with_reducible first | exact HB.out | apply below_alloc | apply pw_below_drewN | apply below_drew1) | exact HB.out)⟩

end Go.Proofs.YtnalcjgefbelnaaDoor.Q
end
