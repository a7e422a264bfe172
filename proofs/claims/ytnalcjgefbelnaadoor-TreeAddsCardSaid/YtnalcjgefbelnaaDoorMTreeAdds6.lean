/- Contracts of Go functions and plain facts, of several texts, one behind the other; no condition. -/
import Derived.Test.YtnalcjgefbelnaaDoorMTreeAdds2
import Derived.Test.YtnalcjgefbelnaaDoorMTreeAdds5
section
namespace Go.Proofs.YtnalcjgefbelnaaDoor.Q
open Go.RowKit Go.Proofs.YtnalcjgefbelnaaDoorW.PrintWords Go.Proofs.YtnalcjgefbelnaaDoorW.PrintLast Go.Proofs.YtnalcjgefbelnaaDoorW.PrintMore
set_option linter.unusedVariables false
set_option linter.unusedSimpArgs false

attribute [local go_sem] max2_int min2_int max_two min_two max_three min_three max_four min_four
/-! ### tinderref08_Copy: function 18 -/
mutual
def tinderref08_Copy.l0 : Nat → List (S44) → List (S44) → Int → Option ((List (S44)))
 | 0, _, _, _ => none
 | k + 1, x0, x3, x4 => if x4 < (x0.length : Int) then (if 0 ≤ x4 then ((tinderref03_Copy.f ((rd_T44 x0 x4).f1)).bind fun t19004 => ((tinderref03_Copy.f ((rd_T44 x0 x4).f4)).bind fun t19008 => (tinderref08_Copy.l1 k x0 x3 x4 0 ((rd_T44 x0 x4).f0) t19004 ((rd_T44 x0 x4).f2) ([] : List (S53)) t19008))) else (none)) else (some x3)
def tinderref08_Copy.l1 : Nat → List (S44) → List (S44) → Int → Int → ByteArray → List Int → Int → List (S53) → List Int → Option ((List (S44)))
 | 0, _, _, _, _, _, _, _, _, _ => none
 | k + 1, x0, x3, x4, x6, x19012000, x19012001, x19012002, x19012003, x19012004 => if 0 ≤ x4 then (if x4 < (x0.length : Int) then (if x6 < (((rd_T44 x0 x4).f3).length : Int) then (if 0 ≤ x6 then ((tinderref04_Copy.f ((rd_T53 ((rd_T44 x0 x4).f3) x6).f1)).bind fun t19017 => (if x19012003.length < 3518437208883 then (tinderref08_Copy.l1 k x0 x3 x4 (wrap64 (x6 + 1)) x19012000 x19012001 x19012002 (x19012003 ++ [(⟨(rd_T53 ((rd_T44 x0 x4).f3) x6).f0, t19017⟩ : S53)]) x19012004) else (none))) else (none)) else (if x3.length < 1466015503701 then (tinderref08_Copy.l0 k x0 (x3 ++ [(⟨x19012000, x19012001, x19012002, x19012003, x19012004⟩ : S44)]) (wrap64 (x4 + 1))) else (none))) else (none)) else (none)
end
def tinderref08_Copy.f (k : Nat) (l0 : List (S44)) : Option ((List (S44))) := tinderref08_Copy.l0 k l0 ([] : List (S44)) 0
def tinderref08_Copy.T5 : Bool × List (List Nat × List Nat) := (true, [([], []), ([], []), ([0, 1], [0, 1]), ([2], [2]), ([3], [3]), ([], []), ([], []), ([5, 6], [5, 6]), ([7], [7]), ([8], [8]), ([], []), ([], []), ([10, 11], [10, 11]), ([12], [12]), ([13], [13]), ([14], [14]), ([], []), ([], []), ([16, 17], [16, 17]), ([18], [18]), ([19], [19]), ([20, 15], [20]), ([4, 9, 15, 21], [4, 9, 15, 21]), ([], []), ([23, 22, 21, 0, 1, 2, 3, 4, 5, 6, 7, 8, 9, 10, 11, 12, 13, 14, 15, 16, 17, 18, 19, 20, 21, 22, 23], [22, 23])])
def tinderref08_Copy.B5 : List Nat := [0, 0, 3, 7, 15, 0, 0, 96, 224, 480, 0, 0, 3072, 7168, 15360, 31744, 0, 0, 196608, 458752, 983040, 2096128, 4194303, 0, 16777215]
theorem tinderref08_Copy.tab5 : rtab .any (opsOf Tryd.f18 5) = tinderref08_Copy.T5 := by kernel_rfl
theorem tinderref08_Copy.bits5 : waitsOk tinderref08_Copy.T5.2 tinderref08_Copy.B5 = true := by kernel_rfl
def tinderref08_Copy.T9 : Bool × List (List Nat × List Nat) := (true, [([], []), ([0], [0]), ([], []), ([], []), ([2, 3], [2, 3]), ([4], [4]), ([5], [5]), ([], []), ([6, 7], [6, 7]), ([8], [8]), ([9], [9]), ([], []), ([], []), ([11, 12], [11, 12]), ([13], [13]), ([14], [14]), ([], []), ([15, 16], [15, 16]), ([17], [17]), ([18], [18]), ([19], [19]), ([10, 20], [10, 20]), ([21], [21]), ([1, 22, 20], [1, 22]), ([0, 1, 2, 3, 4, 5, 6, 7, 8, 9, 10, 11, 12, 13, 14, 15, 16, 17, 18, 19, 20, 21, 22, 23], []), ([24, 23, 23, 0, 1, 2, 3, 4, 5, 6, 7, 8, 9, 10, 11, 12, 13, 14, 15, 16, 17, 18, 19, 20, 21, 22, 23], [23, 24])])
def tinderref08_Copy.B9 : List Nat := [0, 1, 0, 0, 12, 28, 60, 0, 252, 508, 1020, 0, 0, 6144, 14336, 30720, 0, 129024, 260096, 522240, 1046528, 2097148, 4194300, 8388607, 16777215, 33554431]
theorem tinderref08_Copy.tab9 : rtab .any (opsOf Tryd.f18 9) = tinderref08_Copy.T9 := by kernel_rfl
theorem tinderref08_Copy.bits9 : waitsOk tinderref08_Copy.T9.2 tinderref08_Copy.B9 = true := by kernel_rfl
set_option maxHeartbeats 8000000 in
set_option maxRecDepth 100000 in
theorem tinderref08_Copy.calls (k : Nat) (A0 : Option Addr) (c0 : Nat) (l0 : List (S44)) (r : List (S44)) (w : World) (hr0 : Kd.C k44 w A0 l0.length l0) (hc0 : l0.length ≤ c0) (h : tinderref08_Copy.f k l0 = some r) :
  Calls Tryd.prog 18 #[.slice A0 l0.length c0] w fun e w' => ∃ v0_ : Value, e = .returned (v0_) ∧ Kd.R k44 44 w' w.heap.size (fun _ => True) v0_ r ∧ Below w.heap.size w w' := by
 have hu44 := Tryd.underlying44
 have hu53 := Tryd.underlying53
 have HR0 := Aside0.mk hr0
 have HC0 := Aside0.mk hc0
 clear hr0 hc0
 have HB := Aside0.mk (Below.refl w.heap.size w)
 have H : (tinderref08_Copy.l0 k l0 ([] : List (S44)) 0) = some r := h
 clear h
 have H' := Aside0.mk H
 clear H
 go_enter Tryd.func18, Tryd.ntmps18
 go_wp2
 go_loopg [3, 4] k (fun kq v3 v4 w' => ∃ (x3_1 : List (S44)) (x4_1 : Int), v4 = .int .i64 x4_1 ∧ Aside0 (tinderref08_Copy.l0 kq l0 x3_1 x4_1 = some r) ∧ Aside0 (kq ≤ k) ∧ Aside0 (Kd.R k44 44 w' w.heap.size (fun _ => True) v3 x3_1) ∧ Aside0 (Below w.heap.size w w'))
 case atStart => exact ⟨(([] : List (S44))), (0), (by first | rfl | (simp; done) | (simp [*]; done)), H', ⟨Nat.le_refl _⟩, ⟨by first | exact Kd.R_nil _ _ _ _ _ | exact Kd.N_nil _ _ _ _ _ | exact Kd.V_nil _ _ _ _ _ | exact Kd.Q_nil _ _ _ _ _ | exact Kd.S_nil _ _ _ _ _⟩, ⟨by repeat (first | (with_reducible first | exact HB.out | apply below_alloc | apply pw_below_drewN | apply below_drew1) | exact HB.out)⟩⟩
 case round =>
  clear H'
  try clear c1
  obtain ⟨x3_1, x4_1, rfl, HA, HK1, HO_3, HB⟩ := hrel
  cases gk with
  | zero => exact absurd HA.out (by simp [tinderref08_Copy.l0])
  | succ k1 =>
   have H := HA.out
   clear HA
   simp only [tinderref08_Copy.l0] at H
   by_cases c2 : x4_1 < (l0.length : Int)
   ·rw [if_pos c2] at H
    have c2b0 : decide (x4_1 < (l0.length : Int)) = true := decide_eq_true c2
    clear c2
    by_cases c3 : 0 ≤ x4_1
    ·rw [if_pos c3] at H
     have c3b0 : decide (0 ≤ x4_1) = true := decide_eq_true c3
     clear c3
     replace H := Option.bind_eq_some_iff.mp H
     obtain ⟨t19004, A40, H⟩ := H
     replace H : ((tinderref03_Copy.f ((rd_T44 l0 x4_1).f4)).bind fun t19008 => (tinderref08_Copy.l1 k1 l0 x3_1 x4_1 0 ((rd_T44 l0 x4_1).f0) t19004 ((rd_T44 l0 x4_1).f2) ([] : List (S53)) t19008)) = some r := H
     have A4 := Aside0.mk A40
     clear A40
     replace H := Option.bind_eq_some_iff.mp H
     obtain ⟨t19008, A50, H⟩ := H
     replace H : (tinderref08_Copy.l1 k1 l0 x3_1 x4_1 0 ((rd_T44 l0 x4_1).f0) t19004 ((rd_T44 l0 x4_1).f2) ([] : List (S53)) t19008) = some r := H
     have A5 := Aside0.mk A50
     clear A50
     have H' := Aside0.mk H
     clear H
     try go_wp2
     have n0_ := Aside0.mk (Kd.R_drew HO_3.out)
     have n1_ := Aside0.mk (below_drew1 HB.out)
     clear HO_3
     clear HB
     have HO_3 := n0_
     have HB := n1_
     clear n0_ n1_
     have p19001 : 0 ≤ (x4_1 : Int) := of_decide_eq_true (by first | (with_reducible assumption) | assumption)
     have q19001 : x4_1 < (l0.length : Int) := of_decide_eq_true (by first | (with_reducible assumption) | assumption)
     obtain ⟨ad19001, A19001_1, c19001_1, A19001_3, c19001_3, A19001_4, c19001_4, e19001, hx19001_0, hx19001_1, hx19001_2, hx19001_3, hx19001_4, hl19001_1, hi19001_1, hl19001_3, hi19001_3, hl19001_4, hi19001_4⟩ := at_T44 HR0.out x4_1 p19001 q19001
     have hw19001_4 := hx19001_4
     have hw19001_3 := hx19001_3
     have hw19001_2 := hx19001_2
     have hw19001_1 := hx19001_1
     have hw19001_0 := hx19001_0
     cases e19001
     replace hx19001_0 := (HB.out.cell (World.block_lt_of_cell? w _ hx19001_0)).trans hx19001_0
     replace hx19001_1 := (HB.out.cell (World.block_lt_of_cell? w _ hx19001_1)).trans hx19001_1
     replace hx19001_2 := (HB.out.cell (World.block_lt_of_cell? w _ hx19001_2)).trans hx19001_2
     replace hx19001_3 := (HB.out.cell (World.block_lt_of_cell? w _ hx19001_3)).trans hx19001_3
     replace hx19001_4 := (HB.out.cell (World.block_lt_of_cell? w _ hx19001_4)).trans hx19001_4
     have HR19001_1 := Aside0.mk hi19001_1
     have HC19001_1 := Aside0.mk hl19001_1
     clear hi19001_1 hl19001_1
     have HR19001_3 := Aside0.mk hi19001_3
     have HC19001_3 := Aside0.mk hl19001_3
     clear hi19001_3 hl19001_3
     have HR19001_4 := Aside0.mk hi19001_4
     have HC19001_4 := Aside0.mk hl19001_4
     clear hi19001_4 hl19001_4
     replace p19001 := eq_true p19001
     replace q19001 := eq_true q19001
     have p19002 : 0 ≤ (x4_1 : Int) := of_decide_eq_true (by first | (with_reducible assumption) | assumption)
     have q19002 : x4_1 < (l0.length : Int) := of_decide_eq_true (by first | (with_reducible assumption) | assumption)
     obtain ⟨ad19002, A19002_1, c19002_1, A19002_3, c19002_3, A19002_4, c19002_4, e19002, hx19002_0, hx19002_1, hx19002_2, hx19002_3, hx19002_4, hl19002_1, hi19002_1, hl19002_3, hi19002_3, hl19002_4, hi19002_4⟩ := at_T44 HR0.out x4_1 p19002 q19002
     have hw19002_4 := hx19002_4
     have hw19002_3 := hx19002_3
     have hw19002_2 := hx19002_2
     have hw19002_1 := hx19002_1
     have hw19002_0 := hx19002_0
     obtain rfl : ad19001 = ad19002 := (by injection e19002)
     replace hx19002_0 := (HB.out.cell (World.block_lt_of_cell? w _ hx19002_0)).trans hx19002_0
     replace hx19002_1 := (HB.out.cell (World.block_lt_of_cell? w _ hx19002_1)).trans hx19002_1
     replace hx19002_2 := (HB.out.cell (World.block_lt_of_cell? w _ hx19002_2)).trans hx19002_2
     replace hx19002_3 := (HB.out.cell (World.block_lt_of_cell? w _ hx19002_3)).trans hx19002_3
     replace hx19002_4 := (HB.out.cell (World.block_lt_of_cell? w _ hx19002_4)).trans hx19002_4
     have HR19002_1 := Aside0.mk hi19002_1
     have HC19002_1 := Aside0.mk hl19002_1
     clear hi19002_1 hl19002_1
     have HR19002_3 := Aside0.mk hi19002_3
     have HC19002_3 := Aside0.mk hl19002_3
     clear hi19002_3 hl19002_3
     have HR19002_4 := Aside0.mk hi19002_4
     have HC19002_4 := Aside0.mk hl19002_4
     clear hi19002_4 hl19002_4
     replace p19002 := eq_true p19002
     replace q19002 := eq_true q19002
     have ea_ := Option.some.inj (hx19001_1.symm.trans hx19002_1)
     injection ea_ with ea_ en_ ec_
     subst ea_
     subst ec_
     clear en_
     have ea_ := Option.some.inj (hx19001_3.symm.trans hx19002_3)
     injection ea_ with ea_ en_ ec_
     subst ea_
     subst ec_
     clear en_
     have ea_ := Option.some.inj (hx19001_4.symm.trans hx19002_4)
     injection ea_ with ea_ en_ ec_
     subst ea_
     subst ec_
     clear en_
     have p19003 : 0 ≤ (x4_1 : Int) := of_decide_eq_true (by first | (with_reducible assumption) | assumption)
     have q19003 : x4_1 < (l0.length : Int) := of_decide_eq_true (by first | (with_reducible assumption) | assumption)
     obtain ⟨ad19003, A19003_1, c19003_1, A19003_3, c19003_3, A19003_4, c19003_4, e19003, hx19003_0, hx19003_1, hx19003_2, hx19003_3, hx19003_4, hl19003_1, hi19003_1, hl19003_3, hi19003_3, hl19003_4, hi19003_4⟩ := at_T44 HR0.out x4_1 p19003 q19003
     have hw19003_4 := hx19003_4
     have hw19003_3 := hx19003_3
     have hw19003_2 := hx19003_2
     have hw19003_1 := hx19003_1
     have hw19003_0 := hx19003_0
     obtain rfl : ad19001 = ad19003 := (by injection e19003)
     replace hx19003_0 := (HB.out.cell (World.block_lt_of_cell? w _ hx19003_0)).trans hx19003_0
     replace hx19003_1 := (HB.out.cell (World.block_lt_of_cell? w _ hx19003_1)).trans hx19003_1
     replace hx19003_2 := (HB.out.cell (World.block_lt_of_cell? w _ hx19003_2)).trans hx19003_2
     replace hx19003_3 := (HB.out.cell (World.block_lt_of_cell? w _ hx19003_3)).trans hx19003_3
     replace hx19003_4 := (HB.out.cell (World.block_lt_of_cell? w _ hx19003_4)).trans hx19003_4
     have HR19003_1 := Aside0.mk hi19003_1
     have HC19003_1 := Aside0.mk hl19003_1
     clear hi19003_1 hl19003_1
     have HR19003_3 := Aside0.mk hi19003_3
     have HC19003_3 := Aside0.mk hl19003_3
     clear hi19003_3 hl19003_3
     have HR19003_4 := Aside0.mk hi19003_4
     have HC19003_4 := Aside0.mk hl19003_4
     clear hi19003_4 hl19003_4
     replace p19003 := eq_true p19003
     replace q19003 := eq_true q19003
     have ea_ := Option.some.inj (hx19001_1.symm.trans hx19003_1)
     injection ea_ with ea_ en_ ec_
     subst ea_
     subst ec_
     clear en_
     have ea_ := Option.some.inj (hx19001_3.symm.trans hx19003_3)
     injection ea_ with ea_ en_ ec_
     subst ea_
     subst ec_
     clear en_
     have ea_ := Option.some.inj (hx19001_4.symm.trans hx19003_4)
     injection ea_ with ea_ en_ ec_
     subst ea_
     subst ec_
     clear en_
     have p19007 : 0 ≤ (x4_1 : Int) := of_decide_eq_true (by first | (with_reducible assumption) | assumption)
     have q19007 : x4_1 < (l0.length : Int) := of_decide_eq_true (by first | (with_reducible assumption) | assumption)
     obtain ⟨ad19007, A19007_1, c19007_1, A19007_3, c19007_3, A19007_4, c19007_4, e19007, hx19007_0, hx19007_1, hx19007_2, hx19007_3, hx19007_4, hl19007_1, hi19007_1, hl19007_3, hi19007_3, hl19007_4, hi19007_4⟩ := at_T44 HR0.out x4_1 p19007 q19007
     have hw19007_4 := hx19007_4
     have hw19007_3 := hx19007_3
     have hw19007_2 := hx19007_2
     have hw19007_1 := hx19007_1
     have hw19007_0 := hx19007_0
     obtain rfl : ad19001 = ad19007 := (by injection e19007)
     replace hx19007_0 := (HB.out.cell (World.block_lt_of_cell? w _ hx19007_0)).trans hx19007_0
     replace hx19007_1 := (HB.out.cell (World.block_lt_of_cell? w _ hx19007_1)).trans hx19007_1
     replace hx19007_2 := (HB.out.cell (World.block_lt_of_cell? w _ hx19007_2)).trans hx19007_2
     replace hx19007_3 := (HB.out.cell (World.block_lt_of_cell? w _ hx19007_3)).trans hx19007_3
     replace hx19007_4 := (HB.out.cell (World.block_lt_of_cell? w _ hx19007_4)).trans hx19007_4
     have HR19007_1 := Aside0.mk hi19007_1
     have HC19007_1 := Aside0.mk hl19007_1
     clear hi19007_1 hl19007_1
     have HR19007_3 := Aside0.mk hi19007_3
     have HC19007_3 := Aside0.mk hl19007_3
     clear hi19007_3 hl19007_3
     have HR19007_4 := Aside0.mk hi19007_4
     have HC19007_4 := Aside0.mk hl19007_4
     clear hi19007_4 hl19007_4
     replace p19007 := eq_true p19007
     replace q19007 := eq_true q19007
     have ea_ := Option.some.inj (hx19001_1.symm.trans hx19007_1)
     injection ea_ with ea_ en_ ec_
     subst ea_
     subst ec_
     clear en_
     have ea_ := Option.some.inj (hx19001_3.symm.trans hx19007_3)
     injection ea_ with ea_ en_ ec_
     subst ea_
     subst ec_
     clear en_
     have ea_ := Option.some.inj (hx19001_4.symm.trans hx19007_4)
     injection ea_ with ea_ en_ ec_
     subst ea_
     subst ec_
     clear en_
     refine start_ (n := 25) (S := fun w' => w'.cell? (ad19001.add ((x4_1).toNat * 5)) = some (.string ((rd_T44 l0 x4_1).f0)) ∧ w'.cell? ⟨(ad19001.add ((x4_1).toNat * 5)).block, (ad19001.add ((x4_1).toNat * 5)).off + 1, none⟩ = some (.slice A19001_1 ((rd_T44 l0 x4_1).f1).length c19001_1) ∧ w'.cell? ⟨(ad19001.add ((x4_1).toNat * 5)).block, (ad19001.add ((x4_1).toNat * 5)).off + 2, none⟩ = some (.int .i64 ((rd_T44 l0 x4_1).f2)) ∧ w'.cell? ⟨(ad19001.add ((x4_1).toNat * 5)).block, (ad19001.add ((x4_1).toNat * 5)).off + 3, none⟩ = some (.slice A19001_3 ((rd_T44 l0 x4_1).f3).length c19001_3) ∧ w'.cell? ⟨(ad19001.add ((x4_1).toNat * 5)).block, (ad19001.add ((x4_1).toNat * 5)).off + 4, none⟩ = some (.slice A19001_4 ((rd_T44 l0 x4_1).f4).length c19001_4) ∧ w'.cell? (ad19001.add ((x4_1).toNat * 5)) = some (.string ((rd_T44 l0 x4_1).f0)) ∧ w'.cell? ⟨(ad19001.add ((x4_1).toNat * 5)).block, (ad19001.add ((x4_1).toNat * 5)).off + 1, none⟩ = some (.slice A19001_1 ((rd_T44 l0 x4_1).f1).length c19001_1) ∧ w'.cell? ⟨(ad19001.add ((x4_1).toNat * 5)).block, (ad19001.add ((x4_1).toNat * 5)).off + 2, none⟩ = some (.int .i64 ((rd_T44 l0 x4_1).f2)) ∧ w'.cell? ⟨(ad19001.add ((x4_1).toNat * 5)).block, (ad19001.add ((x4_1).toNat * 5)).off + 3, none⟩ = some (.slice A19001_3 ((rd_T44 l0 x4_1).f3).length c19001_3) ∧ w'.cell? ⟨(ad19001.add ((x4_1).toNat * 5)).block, (ad19001.add ((x4_1).toNat * 5)).off + 4, none⟩ = some (.slice A19001_4 ((rd_T44 l0 x4_1).f4).length c19001_4) ∧ w'.cell? (ad19001.add ((x4_1).toNat * 5)) = some (.string ((rd_T44 l0 x4_1).f0)) ∧ w'.cell? ⟨(ad19001.add ((x4_1).toNat * 5)).block, (ad19001.add ((x4_1).toNat * 5)).off + 1, none⟩ = some (.slice A19001_1 ((rd_T44 l0 x4_1).f1).length c19001_1) ∧ w'.cell? ⟨(ad19001.add ((x4_1).toNat * 5)).block, (ad19001.add ((x4_1).toNat * 5)).off + 2, none⟩ = some (.int .i64 ((rd_T44 l0 x4_1).f2)) ∧ w'.cell? ⟨(ad19001.add ((x4_1).toNat * 5)).block, (ad19001.add ((x4_1).toNat * 5)).off + 3, none⟩ = some (.slice A19001_3 ((rd_T44 l0 x4_1).f3).length c19001_3) ∧ w'.cell? ⟨(ad19001.add ((x4_1).toNat * 5)).block, (ad19001.add ((x4_1).toNat * 5)).off + 4, none⟩ = some (.slice A19001_4 ((rd_T44 l0 x4_1).f4).length c19001_4) ∧ w'.cell? (ad19001.add ((x4_1).toNat * 5)) = some (.string ((rd_T44 l0 x4_1).f0)) ∧ w'.cell? ⟨(ad19001.add ((x4_1).toNat * 5)).block, (ad19001.add ((x4_1).toNat * 5)).off + 1, none⟩ = some (.slice A19001_1 ((rd_T44 l0 x4_1).f1).length c19001_1) ∧ w'.cell? ⟨(ad19001.add ((x4_1).toNat * 5)).block, (ad19001.add ((x4_1).toNat * 5)).off + 2, none⟩ = some (.int .i64 ((rd_T44 l0 x4_1).f2)) ∧ w'.cell? ⟨(ad19001.add ((x4_1).toNat * 5)).block, (ad19001.add ((x4_1).toNat * 5)).off + 3, none⟩ = some (.slice A19001_3 ((rd_T44 l0 x4_1).f3).length c19001_3) ∧ w'.cell? ⟨(ad19001.add ((x4_1).toNat * 5)).block, (ad19001.add ((x4_1).toNat * 5)).off + 4, none⟩ = some (.slice A19001_4 ((rd_T44 l0 x4_1).f4).length c19001_4)) (ds := []) #[false, false, false, false, false, false, false, false, false, false, false, false, false, false, false, false, false, false, false, false, false, false, false, false, false] (by kernel_rfl) rfl rfl ⟨((HB.out.cell (World.block_lt_of_cell? w _ hw19001_0)).trans hw19001_0), ((HB.out.cell (World.block_lt_of_cell? w _ hw19001_1)).trans hw19001_1), ((HB.out.cell (World.block_lt_of_cell? w _ hw19001_2)).trans hw19001_2), ((HB.out.cell (World.block_lt_of_cell? w _ hw19001_3)).trans hw19001_3), ((HB.out.cell (World.block_lt_of_cell? w _ hw19001_4)).trans hw19001_4), ((HB.out.cell (World.block_lt_of_cell? w _ hw19002_0)).trans hw19002_0), ((HB.out.cell (World.block_lt_of_cell? w _ hw19002_1)).trans hw19002_1), ((HB.out.cell (World.block_lt_of_cell? w _ hw19002_2)).trans hw19002_2), ((HB.out.cell (World.block_lt_of_cell? w _ hw19002_3)).trans hw19002_3), ((HB.out.cell (World.block_lt_of_cell? w _ hw19002_4)).trans hw19002_4), ((HB.out.cell (World.block_lt_of_cell? w _ hw19003_0)).trans hw19003_0), ((HB.out.cell (World.block_lt_of_cell? w _ hw19003_1)).trans hw19003_1), ((HB.out.cell (World.block_lt_of_cell? w _ hw19003_2)).trans hw19003_2), ((HB.out.cell (World.block_lt_of_cell? w _ hw19003_3)).trans hw19003_3), ((HB.out.cell (World.block_lt_of_cell? w _ hw19003_4)).trans hw19003_4), ((HB.out.cell (World.block_lt_of_cell? w _ hw19007_0)).trans hw19007_0), ((HB.out.cell (World.block_lt_of_cell? w _ hw19007_1)).trans hw19007_1), ((HB.out.cell (World.block_lt_of_cell? w _ hw19007_2)).trans hw19007_2), ((HB.out.cell (World.block_lt_of_cell? w _ hw19007_3)).trans hw19007_3), ((HB.out.cell (World.block_lt_of_cell? w _ hw19007_4)).trans hw19007_4)⟩ (fun hHeld => ?_); refine with_tabW tinderref08_Copy.tab5 tinderref08_Copy.bits5 (fun HT_ HW_ => ?_)
     generalize wr.drew = w6 at HO_3 HB HR19001_1 HR19001_3 HR19001_4 HR19002_1 HR19002_3 HR19002_4 HR19003_1 HR19003_3 HR19003_4 HR19007_1 HR19007_3 HR19007_4 hx19001_0 hx19001_1 hx19001_2 hx19001_3 hx19001_4 hx19002_0 hx19002_1 hx19002_2 hx19002_3 hx19002_4 hx19003_0 hx19003_1 hx19003_2 hx19003_3 hx19003_4 hx19007_0 hx19007_1 hx19007_2 hx19007_3 hx19007_4 hHeld ⊢
     refine pure_ (i := 0) (N := some 13) (v := ?_) (a' := ?_) #[true, false, false, false, false, false, false, false, false, false, false, false, false, false, false, false, false, false, false, false, false, false, false, false, false] rfl rfl (any_of HT_.out (by kernel_rfl)) (fun _ _ _ h => h) (Or.inl ⟨by rfl, ?_⟩) ?_ ?_
     rotate_left
     ·intro w'
      go_simp
      with_reducible rfl
     rotate_left
     ·simp only [Act.put, List.setIfInBounds_toArray, List.set_cons_zero, List.set_cons_succ, i64_w, i32_w]
      rfl
     refine pure_ (i := 1) (N := some 14) (v := ?_) (a' := ?_) #[true, true, false, false, false, false, false, false, false, false, false, false, false, false, false, false, false, false, false, false, false, false, false, false, false] rfl rfl (any_of HT_.out (by kernel_rfl)) (fun _ _ _ h => h) (Or.inl ⟨by rfl, ?_⟩) ?_ ?_
     rotate_left
     ·intro w'
      go_simp
      with_reducible rfl
     rotate_left
     ·simp only [Act.put, List.setIfInBounds_toArray, List.set_cons_zero, List.set_cons_succ, i64_w, i32_w]
      rfl
     refine pure_ (i := 2) (N := some 15) (v := ?_) (a' := ?_) #[true, true, true, false, false, false, false, false, false, false, false, false, false, false, false, false, false, false, false, false, false, false, false, false, false] rfl rfl (any_of HT_.out (by kernel_rfl)) (fun _ _ _ h => h) (Or.inl ⟨by rfl, ?_⟩) ?_ ?_
     rotate_left
     ·intro w'
      go_simp
      with_reducible rfl
     rotate_left
     ·simp only [Act.put, List.setIfInBounds_toArray, List.set_cons_zero, List.set_cons_succ, i64_w, i32_w]
      rfl
     refine pure_ (i := 3) (N := some 16) (v := ?_) (a' := ?_) #[true, true, true, true, false, false, false, false, false, false, false, false, false, false, false, false, false, false, false, false, false, false, false, false, false] rfl rfl (any_of HT_.out (by kernel_rfl)) (fun _ _ _ h => h) (Or.inl ⟨by rfl, ?_⟩) ?_ ?_
     rotate_left
     ·intro w'
      go_simp
      with_reducible rfl
     rotate_left
     ·simp only [Act.put, List.setIfInBounds_toArray, List.set_cons_zero, List.set_cons_succ, i64_w, i32_w]
      rfl
     refine pure_ (i := 5) (N := some 18) (v := ?_) (a' := ?_) #[true, true, true, true, false, true, false, false, false, false, false, false, false, false, false, false, false, false, false, false, false, false, false, false, false] rfl rfl (any_of HT_.out (by kernel_rfl)) (fun _ _ _ h => h) (Or.inl ⟨by rfl, ?_⟩) ?_ ?_
     rotate_left
     ·intro w'
      go_simp
      with_reducible rfl
     rotate_left
     ·simp only [Act.put, List.setIfInBounds_toArray, List.set_cons_zero, List.set_cons_succ, i64_w, i32_w]
      rfl
     refine pure_ (i := 6) (N := some 19) (v := ?_) (a' := ?_) #[true, true, true, true, false, true, true, false, false, false, false, false, false, false, false, false, false, false, false, false, false, false, false, false, false] rfl rfl (any_of HT_.out (by kernel_rfl)) (fun _ _ _ h => h) (Or.inl ⟨by rfl, ?_⟩) ?_ ?_
     rotate_left
     ·intro w'
      go_simp
      with_reducible rfl
     rotate_left
     ·simp only [Act.put, List.setIfInBounds_toArray, List.set_cons_zero, List.set_cons_succ, i64_w, i32_w]
      rfl
     refine pure_ (i := 7) (N := some 20) (v := ?_) (a' := ?_) #[true, true, true, true, false, true, true, true, false, false, false, false, false, false, false, false, false, false, false, false, false, false, false, false, false] rfl rfl (any_of HT_.out (by kernel_rfl)) (fun _ _ _ h => h) (Or.inl ⟨by rfl, ?_⟩) ?_ ?_
     rotate_left
     ·intro w'
      go_simp
      with_reducible rfl
     rotate_left
     ·simp only [Act.put, List.setIfInBounds_toArray, List.set_cons_zero, List.set_cons_succ, i64_w, i32_w]
      rfl
     refine pure_ (i := 8) (N := some 21) (v := ?_) (a' := ?_) #[true, true, true, true, false, true, true, true, true, false, false, false, false, false, false, false, false, false, false, false, false, false, false, false, false] rfl rfl (any_of HT_.out (by kernel_rfl)) (fun _ _ _ h => h) (Or.inl ⟨by rfl, ?_⟩) ?_ ?_
     rotate_left
     ·intro w'
      go_simp
      with_reducible rfl
     rotate_left
     ·simp only [Act.put, List.setIfInBounds_toArray, List.set_cons_zero, List.set_cons_succ, i64_w, i32_w]
      rfl
     refine pure_ (i := 10) (N := some 23) (v := ?_) (a' := ?_) #[true, true, true, true, false, true, true, true, true, false, true, false, false, false, false, false, false, false, false, false, false, false, false, false, false] rfl rfl (any_of HT_.out (by kernel_rfl)) (fun _ _ _ h => h) (Or.inl ⟨by rfl, ?_⟩) ?_ ?_
     rotate_left
     ·intro w'
      go_simp
      with_reducible rfl
     rotate_left
     ·simp only [Act.put, List.setIfInBounds_toArray, List.set_cons_zero, List.set_cons_succ, i64_w, i32_w]
      rfl
     refine pure_ (i := 11) (N := some 24) (v := ?_) (a' := ?_) #[true, true, true, true, false, true, true, true, true, false, true, true, false, false, false, false, false, false, false, false, false, false, false, false, false] rfl rfl (any_of HT_.out (by kernel_rfl)) (fun _ _ _ h => h) (Or.inl ⟨by rfl, ?_⟩) ?_ ?_
     rotate_left
     ·intro w'
      go_simp
      with_reducible rfl
     rotate_left
     ·simp only [Act.put, List.setIfInBounds_toArray, List.set_cons_zero, List.set_cons_succ, i64_w, i32_w]
      rfl
     refine pure_ (i := 12) (N := some 25) (v := ?_) (a' := ?_) #[true, true, true, true, false, true, true, true, true, false, true, true, true, false, false, false, false, false, false, false, false, false, false, false, false] rfl rfl (any_of HT_.out (by kernel_rfl)) (fun _ _ _ h => h) (Or.inl ⟨by rfl, ?_⟩) ?_ ?_
     rotate_left
     ·intro w'
      go_simp
      with_reducible rfl
     rotate_left
     ·simp only [Act.put, List.setIfInBounds_toArray, List.set_cons_zero, List.set_cons_succ, i64_w, i32_w]
      rfl
     refine pure_ (i := 13) (N := some 26) (v := ?_) (a' := ?_) #[true, true, true, true, false, true, true, true, true, false, true, true, true, true, false, false, false, false, false, false, false, false, false, false, false] rfl rfl (any_of HT_.out (by kernel_rfl)) (fun _ _ _ h => h) (Or.inl ⟨by rfl, ?_⟩) ?_ ?_
     rotate_left
     ·intro w'
      go_simp
      with_reducible rfl
     rotate_left
     ·simp only [Act.put, List.setIfInBounds_toArray, List.set_cons_zero, List.set_cons_succ, i64_w, i32_w]
      rfl
     refine pure_ (i := 16) (N := some 29) (v := ?_) (a' := ?_) #[true, true, true, true, false, true, true, true, true, false, true, true, true, true, false, false, true, false, false, false, false, false, false, false, false] rfl rfl (any_of HT_.out (by kernel_rfl)) (fun _ _ _ h => h) (Or.inl ⟨by rfl, ?_⟩) ?_ ?_
     rotate_left
     ·intro w'
      go_simp
      with_reducible rfl
     rotate_left
     ·simp only [Act.put, List.setIfInBounds_toArray, List.set_cons_zero, List.set_cons_succ, i64_w, i32_w]
      rfl
     refine pure_ (i := 17) (N := some 30) (v := ?_) (a' := ?_) #[true, true, true, true, false, true, true, true, true, false, true, true, true, true, false, false, true, true, false, false, false, false, false, false, false] rfl rfl (any_of HT_.out (by kernel_rfl)) (fun _ _ _ h => h) (Or.inl ⟨by rfl, ?_⟩) ?_ ?_
     rotate_left
     ·intro w'
      go_simp
      with_reducible rfl
     rotate_left
     ·simp only [Act.put, List.setIfInBounds_toArray, List.set_cons_zero, List.set_cons_succ, i64_w, i32_w]
      rfl
     refine pure_ (i := 18) (N := some 31) (v := ?_) (a' := ?_) #[true, true, true, true, false, true, true, true, true, false, true, true, true, true, false, false, true, true, true, false, false, false, false, false, false] rfl rfl (any_of HT_.out (by kernel_rfl)) (fun _ _ _ h => h) (Or.inl ⟨by rfl, ?_⟩) ?_ ?_
     rotate_left
     ·intro w'
      go_simp
      with_reducible rfl
     rotate_left
     ·simp only [Act.put, List.setIfInBounds_toArray, List.set_cons_zero, List.set_cons_succ, i64_w, i32_w]
      rfl
     refine pure_ (i := 19) (N := some 32) (v := ?_) (a' := ?_) #[true, true, true, true, false, true, true, true, true, false, true, true, true, true, false, false, true, true, true, true, false, false, false, false, false] rfl rfl (any_of HT_.out (by kernel_rfl)) (fun _ _ _ h => h) (Or.inl ⟨by rfl, ?_⟩) ?_ ?_
     rotate_left
     ·intro w'
      go_simp
      with_reducible rfl
     rotate_left
     ·simp only [Act.put, List.setIfInBounds_toArray, List.set_cons_zero, List.set_cons_succ, i64_w, i32_w]
      rfl
     refine take_ (i := 4) (N := some 17) (v := ?_) (a' := ?_) #[true, true, true, true, true, true, true, true, true, false, true, true, true, true, false, false, true, true, true, true, false, false, false, false, false] rfl rfl (take_ofW HT_.out HW_.out (by kernel_rfl)) (fun _ _ _ h => h) (Or.inl ⟨by rfl, ?_⟩) hHeld ?_ ?_
     rotate_left
     ·rintro w' ⟨s0, s1, s2, s3, s4, s5, s6, s7, s8, s9, s10, s11, s12, s13, s14, s15, s16, s17, s18, s19⟩
      go_simp
      with_reducible rfl
     rotate_left
     ·simp only [Act.put, List.setIfInBounds_toArray, List.set_cons_zero, List.set_cons_succ, i64_w, i32_w]
      rfl
     refine take_ (i := 9) (N := some 22) (v := ?_) (a' := ?_) #[true, true, true, true, true, true, true, true, true, true, true, true, true, true, false, false, true, true, true, true, false, false, false, false, false] rfl rfl (take_ofW HT_.out HW_.out (by kernel_rfl)) (fun _ _ _ h => h) (Or.inl ⟨by rfl, ?_⟩) hHeld ?_ ?_
     rotate_left
     ·rintro w' ⟨s0, s1, s2, s3, s4, s5, s6, s7, s8, s9, s10, s11, s12, s13, s14, s15, s16, s17, s18, s19⟩
      go_simp
      with_reducible rfl
     rotate_left
     ·simp only [Act.put, List.setIfInBounds_toArray, List.set_cons_zero, List.set_cons_succ, i64_w, i32_w]
      rfl
     refine take_ (i := 14) (N := some 27) (v := ?_) (a' := ?_) #[true, true, true, true, true, true, true, true, true, true, true, true, true, true, true, false, true, true, true, true, false, false, false, false, false] rfl rfl (take_ofW HT_.out HW_.out (by kernel_rfl)) (fun _ _ _ h => h) (Or.inl ⟨by rfl, ?_⟩) hHeld ?_ ?_
     rotate_left
     ·rintro w' ⟨s0, s1, s2, s3, s4, s5, s6, s7, s8, s9, s10, s11, s12, s13, s14, s15, s16, s17, s18, s19⟩
      go_simp
      with_reducible rfl
     rotate_left
     ·simp only [Act.put, List.setIfInBounds_toArray, List.set_cons_zero, List.set_cons_succ, i64_w, i32_w]
      rfl
     refine take_ (i := 20) (N := some 33) (v := ?_) (a' := ?_) #[true, true, true, true, true, true, true, true, true, true, true, true, true, true, true, false, true, true, true, true, true, false, false, false, false] rfl rfl (take_ofW HT_.out HW_.out (by kernel_rfl)) (fun _ _ _ h => h) (Or.inl ⟨by rfl, ?_⟩) hHeld ?_ ?_
     rotate_left
     ·rintro w' ⟨s0, s1, s2, s3, s4, s5, s6, s7, s8, s9, s10, s11, s12, s13, s14, s15, s16, s17, s18, s19⟩
      go_simp
      with_reducible rfl
     rotate_left
     ·simp only [Act.put, List.setIfInBounds_toArray, List.set_cons_zero, List.set_cons_succ, i64_w, i32_w]
      rfl
     refine join_ (σ := Value × Value × Nat) 1 #[true, true, true, true, true, true, true, true, true, true, true, true, true, true, true, true, true, true, true, true, true, true, true, true, false] (fun s_ => [(28, s_.1), (34, s_.2.1), (5, .pointer (some ⟨s_.2.2, 0, none⟩)), (35, .agg #[.string ((rd_T44 l0 x4_1).f0), s_.1, .int .i64 ((rd_T44 l0 x4_1).f2), .slice none 0 0, s_.2.1])]) (fun s_ w' => (w'.cell? (ad19001.add ((x4_1).toNat * 5)) = some (.string ((rd_T44 l0 x4_1).f0)) ∧ w'.cell? ⟨(ad19001.add ((x4_1).toNat * 5)).block, (ad19001.add ((x4_1).toNat * 5)).off + 1, none⟩ = some (.slice A19001_1 ((rd_T44 l0 x4_1).f1).length c19001_1) ∧ w'.cell? ⟨(ad19001.add ((x4_1).toNat * 5)).block, (ad19001.add ((x4_1).toNat * 5)).off + 2, none⟩ = some (.int .i64 ((rd_T44 l0 x4_1).f2)) ∧ w'.cell? ⟨(ad19001.add ((x4_1).toNat * 5)).block, (ad19001.add ((x4_1).toNat * 5)).off + 3, none⟩ = some (.slice A19001_3 ((rd_T44 l0 x4_1).f3).length c19001_3) ∧ w'.cell? ⟨(ad19001.add ((x4_1).toNat * 5)).block, (ad19001.add ((x4_1).toNat * 5)).off + 4, none⟩ = some (.slice A19001_4 ((rd_T44 l0 x4_1).f4).length c19001_4) ∧ w'.cell? (ad19001.add ((x4_1).toNat * 5)) = some (.string ((rd_T44 l0 x4_1).f0)) ∧ w'.cell? ⟨(ad19001.add ((x4_1).toNat * 5)).block, (ad19001.add ((x4_1).toNat * 5)).off + 1, none⟩ = some (.slice A19001_1 ((rd_T44 l0 x4_1).f1).length c19001_1) ∧ w'.cell? ⟨(ad19001.add ((x4_1).toNat * 5)).block, (ad19001.add ((x4_1).toNat * 5)).off + 2, none⟩ = some (.int .i64 ((rd_T44 l0 x4_1).f2)) ∧ w'.cell? ⟨(ad19001.add ((x4_1).toNat * 5)).block, (ad19001.add ((x4_1).toNat * 5)).off + 3, none⟩ = some (.slice A19001_3 ((rd_T44 l0 x4_1).f3).length c19001_3) ∧ w'.cell? ⟨(ad19001.add ((x4_1).toNat * 5)).block, (ad19001.add ((x4_1).toNat * 5)).off + 4, none⟩ = some (.slice A19001_4 ((rd_T44 l0 x4_1).f4).length c19001_4) ∧ w'.cell? (ad19001.add ((x4_1).toNat * 5)) = some (.string ((rd_T44 l0 x4_1).f0)) ∧ w'.cell? ⟨(ad19001.add ((x4_1).toNat * 5)).block, (ad19001.add ((x4_1).toNat * 5)).off + 1, none⟩ = some (.slice A19001_1 ((rd_T44 l0 x4_1).f1).length c19001_1) ∧ w'.cell? ⟨(ad19001.add ((x4_1).toNat * 5)).block, (ad19001.add ((x4_1).toNat * 5)).off + 2, none⟩ = some (.int .i64 ((rd_T44 l0 x4_1).f2)) ∧ w'.cell? ⟨(ad19001.add ((x4_1).toNat * 5)).block, (ad19001.add ((x4_1).toNat * 5)).off + 3, none⟩ = some (.slice A19001_3 ((rd_T44 l0 x4_1).f3).length c19001_3) ∧ w'.cell? ⟨(ad19001.add ((x4_1).toNat * 5)).block, (ad19001.add ((x4_1).toNat * 5)).off + 4, none⟩ = some (.slice A19001_4 ((rd_T44 l0 x4_1).f4).length c19001_4) ∧ w'.cell? (ad19001.add ((x4_1).toNat * 5)) = some (.string ((rd_T44 l0 x4_1).f0)) ∧ w'.cell? ⟨(ad19001.add ((x4_1).toNat * 5)).block, (ad19001.add ((x4_1).toNat * 5)).off + 1, none⟩ = some (.slice A19001_1 ((rd_T44 l0 x4_1).f1).length c19001_1) ∧ w'.cell? ⟨(ad19001.add ((x4_1).toNat * 5)).block, (ad19001.add ((x4_1).toNat * 5)).off + 2, none⟩ = some (.int .i64 ((rd_T44 l0 x4_1).f2)) ∧ w'.cell? ⟨(ad19001.add ((x4_1).toNat * 5)).block, (ad19001.add ((x4_1).toNat * 5)).off + 3, none⟩ = some (.slice A19001_3 ((rd_T44 l0 x4_1).f3).length c19001_3) ∧ w'.cell? ⟨(ad19001.add ((x4_1).toNat * 5)).block, (ad19001.add ((x4_1).toNat * 5)).off + 4, none⟩ = some (.slice A19001_4 ((rd_T44 l0 x4_1).f4).length c19001_4)) ∧ (Kd.R (Kd.int .u32) 66 w' w.heap.size (fun k_ => some k_ ≠ (s_.2.1 : Value).ownBlock) s_.1 t19004) ∧ (Kd.R (Kd.int .u32) 66 w' w.heap.size (fun k_ => some k_ ≠ (s_.1 : Value).ownBlock) s_.2.1 t19008) ∧ (Kd.R k44 44 w' w.heap.size (fun k_ => some k_ ≠ (s_.1 : Value).ownBlock ∧ some k_ ≠ (s_.2.1 : Value).ownBlock ∧ k_ ≠ s_.2.2) u3 x3_1) ∧ (w'.heap[s_.2.2]? = some (.cells #[.string (⟨#[]⟩ : ByteArray), .slice none 0 0, .int .i64 0, .slice none 0 0, .slice none 0 0] 44 (0, 0))) ∧ (w.heap.size ≤ s_.2.2) ∧ (w.heap.size ≤ s_.2.2) ∧ (Below w.heap.size w w')) ?_ ?_
     rotate_left
     ·intro hCont
      refine two_ (i := 15) (j := 23) (Ni := some 28) (Nj := some 5) #[true, true, true, true, true, true, true, true, true, true, true, true, true, true, true, true, true, true, true, true, true, false, false, false, false] #[true, true, true, true, true, true, true, true, true, true, true, true, true, true, true, false, true, true, true, true, true, false, false, true, false] rfl rfl rfl rfl (two_of HT_.out (by kernel_rfl)) (by decide) (by decide) (fun K hK => ?_) (fun K hK => ?_)
      ·skip
       refine goes_ Tryd.func51 (by kernel_rfl) rfl #[.slice A19001_1 ((rd_T44 l0 x4_1).f1).length c19001_1] (by rfl) rfl rfl (by (try simp only [List.map_toArray, List.map_cons, List.map_nil]); first | done | rfl | (simp only [List.length_drop, List.length_take]; rfl)) ?_
       with_reducible refine (tinderref03_Copy.calls _ _ ((rd_T44 l0 x4_1).f1) t19004 _ ?side1 ?side2 A4.out).mono ?_
       (case side1 => repeat (first | exact (Kd.C_below HR19003_1.out HB.out) | (with_reducible refine Kd.C_alloc ?_ _) | (with_reducible refine Kd.C_drewN ?_ _) | (with_reducible refine Kd.C_drew ?_)))
       (case side2 => exact HC19003_1.out)
       rintro e w7 ⟨v19005, rfl, ho0, hb⟩
       refine ⟨_, rfl, ?_⟩
       have n0_ := Aside0.mk (Kd.R_elder' (by (with_reducible repeat (first | apply Kd.R_alloc | apply Kd.R_drewN | apply Kd.R_drew)); exact HO_3.out) (Kd.R_base ho0) hb)
       have n1_ := Aside0.mk (Kd.R_lower ho0 (below_size (by repeat (first | (with_reducible first | exact HB.out | apply below_alloc | apply pw_below_drewN | apply below_drew1) | exact HB.out))))
       have n2_ := Aside0.mk (below_step (by repeat (first | (with_reducible first | exact HB.out | apply below_alloc | apply pw_below_drewN | apply below_drew1) | exact HB.out)) hb)
       clear HO_3
       clear HB
       have HO_3 := n0_
       have HO19006 := n1_
       have HB := n2_
       clear n0_ n1_ n2_
       (try clear hb)
       (try clear hb2)
       (try clear hk)
       (try clear hi)
       (try clear ho0)
       refine hK.out _ _ ⟨((HB.out.cell (World.block_lt_of_cell? w _ hw19001_0)).trans hw19001_0), ((HB.out.cell (World.block_lt_of_cell? w _ hw19001_1)).trans hw19001_1), ((HB.out.cell (World.block_lt_of_cell? w _ hw19001_2)).trans hw19001_2), ((HB.out.cell (World.block_lt_of_cell? w _ hw19001_3)).trans hw19001_3), ((HB.out.cell (World.block_lt_of_cell? w _ hw19001_4)).trans hw19001_4), ((HB.out.cell (World.block_lt_of_cell? w _ hw19002_0)).trans hw19002_0), ((HB.out.cell (World.block_lt_of_cell? w _ hw19002_1)).trans hw19002_1), ((HB.out.cell (World.block_lt_of_cell? w _ hw19002_2)).trans hw19002_2), ((HB.out.cell (World.block_lt_of_cell? w _ hw19002_3)).trans hw19002_3), ((HB.out.cell (World.block_lt_of_cell? w _ hw19002_4)).trans hw19002_4), ((HB.out.cell (World.block_lt_of_cell? w _ hw19003_0)).trans hw19003_0), ((HB.out.cell (World.block_lt_of_cell? w _ hw19003_1)).trans hw19003_1), ((HB.out.cell (World.block_lt_of_cell? w _ hw19003_2)).trans hw19003_2), ((HB.out.cell (World.block_lt_of_cell? w _ hw19003_3)).trans hw19003_3), ((HB.out.cell (World.block_lt_of_cell? w _ hw19003_4)).trans hw19003_4), ((HB.out.cell (World.block_lt_of_cell? w _ hw19007_0)).trans hw19007_0), ((HB.out.cell (World.block_lt_of_cell? w _ hw19007_1)).trans hw19007_1), ((HB.out.cell (World.block_lt_of_cell? w _ hw19007_2)).trans hw19007_2), ((HB.out.cell (World.block_lt_of_cell? w _ hw19007_3)).trans hw19007_3), ((HB.out.cell (World.block_lt_of_cell? w _ hw19007_4)).trans hw19007_4)⟩ (fun hHeld => ?_)
       clear hK K
       refine norm_ (a' := ?_) ?_ ?_
       rotate_left
       ·show Act.put _ (some 28) _ = _
        simp only [Act.put, List.setIfInBounds_toArray, List.set_cons_zero, List.set_cons_succ, i64_w, i32_w]
        rfl
       refine two_ (i := 21) (j := 23) (Ni := some 34) (Nj := some 5) #[true, true, true, true, true, true, true, true, true, true, true, true, true, true, true, true, true, true, true, true, true, true, false, false, false] #[true, true, true, true, true, true, true, true, true, true, true, true, true, true, true, true, true, true, true, true, true, false, false, true, false] rfl rfl rfl rfl (two_of HT_.out (by kernel_rfl)) (by decide) (by decide) (fun K hK => ?_) (fun K hK => ?_)
       ·skip
        refine goes_ Tryd.func51 (by kernel_rfl) rfl #[.slice A19001_4 ((rd_T44 l0 x4_1).f4).length c19001_4] (by rfl) rfl rfl (by (try simp only [List.map_toArray, List.map_cons, List.map_nil]); first | done | rfl | (simp only [List.length_drop, List.length_take]; rfl)) ?_
        with_reducible refine (tinderref03_Copy.calls _ _ ((rd_T44 l0 x4_1).f4) t19008 _ ?side1 ?side2 A5.out).mono ?_
        (case side1 => repeat (first | exact (Kd.C_below HR19007_4.out HB.out) | (with_reducible refine Kd.C_alloc ?_ _) | (with_reducible refine Kd.C_drewN ?_ _) | (with_reducible refine Kd.C_drew ?_)))
        (case side2 => exact HC19007_4.out)
        rintro e w8 ⟨v19009, rfl, ho0, hb⟩
        refine ⟨_, rfl, ?_⟩
        have n0_ := Aside0.mk (Kd.R_elder' (by (with_reducible repeat (first | apply Kd.R_alloc | apply Kd.R_drewN | apply Kd.R_drew)); exact HO_3.out) (Kd.R_base ho0) hb)
        have n1_ := Aside0.mk (Kd.R_elder' (by (with_reducible repeat (first | apply Kd.R_alloc | apply Kd.R_drewN | apply Kd.R_drew)); exact HO19006.out) (Kd.R_base ho0) hb)
        have n2_ := Aside0.mk (Kd.R_lower (Kd.R_new' ho0 (Kd.R_lt (by (with_reducible repeat (first | apply Kd.R_alloc | apply Kd.R_drewN | apply Kd.R_drew)); exact HO19006.out))) (below_size (by repeat (first | (with_reducible first | exact HB.out | apply below_alloc | apply pw_below_drewN | apply below_drew1) | exact HB.out))))
        have n3_ := Aside0.mk (below_step (by repeat (first | (with_reducible first | exact HB.out | apply below_alloc | apply pw_below_drewN | apply below_drew1) | exact HB.out)) hb)
        clear HO_3
        clear HO19006
        clear HB
        have HO_3 := n0_
        have HO19006 := n1_
        have HO19010 := n2_
        have HB := n3_
        clear n0_ n1_ n2_ n3_
        (try clear hb)
        (try clear hb2)
        (try clear hk)
        (try clear hi)
        (try clear ho0)
        obtain ⟨Ao9, co9, eo9⟩ := Kd.R_slice HO19010.out
        (first | subst eo9 | (injection eo9 with f1_ f2_ f3_; have f4_ := f1_.symm; have f5_ := f3_.symm; clear f1_ f2_ f3_; subst f4_; subst f5_))
        obtain ⟨Ao10, co10, eo10⟩ := Kd.R_slice HO19006.out
        (first | subst eo10 | (injection eo10 with f1_ f2_ f3_; have f4_ := f1_.symm; have f5_ := f3_.symm; clear f1_ f2_ f3_; subst f4_; subst f5_))
        refine hK.out _ _ ⟨((HB.out.cell (World.block_lt_of_cell? w _ hw19001_0)).trans hw19001_0), ((HB.out.cell (World.block_lt_of_cell? w _ hw19001_1)).trans hw19001_1), ((HB.out.cell (World.block_lt_of_cell? w _ hw19001_2)).trans hw19001_2), ((HB.out.cell (World.block_lt_of_cell? w _ hw19001_3)).trans hw19001_3), ((HB.out.cell (World.block_lt_of_cell? w _ hw19001_4)).trans hw19001_4), ((HB.out.cell (World.block_lt_of_cell? w _ hw19002_0)).trans hw19002_0), ((HB.out.cell (World.block_lt_of_cell? w _ hw19002_1)).trans hw19002_1), ((HB.out.cell (World.block_lt_of_cell? w _ hw19002_2)).trans hw19002_2), ((HB.out.cell (World.block_lt_of_cell? w _ hw19002_3)).trans hw19002_3), ((HB.out.cell (World.block_lt_of_cell? w _ hw19002_4)).trans hw19002_4), ((HB.out.cell (World.block_lt_of_cell? w _ hw19003_0)).trans hw19003_0), ((HB.out.cell (World.block_lt_of_cell? w _ hw19003_1)).trans hw19003_1), ((HB.out.cell (World.block_lt_of_cell? w _ hw19003_2)).trans hw19003_2), ((HB.out.cell (World.block_lt_of_cell? w _ hw19003_3)).trans hw19003_3), ((HB.out.cell (World.block_lt_of_cell? w _ hw19003_4)).trans hw19003_4), ((HB.out.cell (World.block_lt_of_cell? w _ hw19007_0)).trans hw19007_0), ((HB.out.cell (World.block_lt_of_cell? w _ hw19007_1)).trans hw19007_1), ((HB.out.cell (World.block_lt_of_cell? w _ hw19007_2)).trans hw19007_2), ((HB.out.cell (World.block_lt_of_cell? w _ hw19007_3)).trans hw19007_3), ((HB.out.cell (World.block_lt_of_cell? w _ hw19007_4)).trans hw19007_4)⟩ (fun hHeld => ?_)
        clear hK K
        refine norm_ (a' := ?_) ?_ ?_
        rotate_left
        ·show Act.put _ (some 34) _ = _
         simp only [Act.put, List.setIfInBounds_toArray, List.set_cons_zero, List.set_cons_succ, i64_w, i32_w]
         rfl
        refine pure_ (i := 22) (N := some 35) (v := ?_) (a' := ?_) #[true, true, true, true, true, true, true, true, true, true, true, true, true, true, true, true, true, true, true, true, true, true, true, false, false] rfl rfl (any_of HT_.out (by kernel_rfl)) (fun _ _ _ h => h) (Or.inl ⟨by rfl, ?_⟩) ?_ ?_
        rotate_left
        ·intro w'
         go_simp
         with_reducible rfl
        rotate_left
        ·simp only [Act.put, List.setIfInBounds_toArray, List.set_cons_zero, List.set_cons_succ, i64_w, i32_w]
         rfl
        refine one_ (i := 23) (N := some 5) #[true, true, true, true, true, true, true, true, true, true, true, true, true, true, true, true, true, true, true, true, true, true, true, true, false] rfl rfl (one_of HT_.out (by kernel_rfl)) (by decide) (fun K hK => ?_)
        refine box_step ?hg (N := 5) ?hd (cs := #[.string (⟨#[]⟩ : ByteArray), .slice none 0 0, .int .i64 0, .slice none 0 0, .slice none 0 0]) (t := 44) ?hr ?_; (case hd => rfl); (case hg => rfl); (case hr => first | (go_simp; done) | (go_simp; rfl))
        intro gb19011 hg w11 hbox hb
        have n0_ := Aside0.mk (Kd.R_below (Kd.R_elderB (by (with_reducible repeat (first | apply Kd.R_alloc | apply Kd.R_drewN | apply Kd.R_drew)); exact HO_3.out) gb19011 (Nat.le_of_eq hg.symm)) hb)
        have n1_ := Aside0.mk (Kd.R_below (by (with_reducible repeat (first | apply Kd.R_alloc | apply Kd.R_drewN | apply Kd.R_drew)); exact HO19006.out) hb)
        have n2_ := Aside0.mk (Kd.R_below (by (with_reducible repeat (first | apply Kd.R_alloc | apply Kd.R_drewN | apply Kd.R_drew)); exact HO19010.out) hb)
        have n3_ := Aside0.mk (below_step (by repeat (first | (with_reducible first | exact HB.out | apply below_alloc | apply pw_below_drewN | apply below_drew1) | exact HB.out)) hb)
        have n4_ := Aside0.mk (hbox)
        have n5_ := Aside0.mk ((by rw [hg]; exact (below_size (by repeat (first | (with_reducible first | exact HB.out | apply below_alloc | apply pw_below_drewN | apply below_drew1) | exact HB.out))) : w.heap.size ≤ gb19011))
        have n6_ := Aside0.mk ((by rw [hg]; exact (below_size (by repeat (first | (with_reducible first | exact HB.out | apply below_alloc | apply pw_below_drewN | apply below_drew1) | exact HB.out))) : w.heap.size ≤ gb19011))
        clear HO_3
        clear HO19006
        clear HO19010
        clear HB
        have HO_3 := n0_
        have HO19006 := n1_
        have HO19010 := n2_
        have HB := n3_
        have BK19011 := n4_
        have GW19011 := n5_
        have GE19011 := n6_
        clear n0_ n1_ n2_ n3_ n4_ n5_ n6_
        clear hb hbox hg
        refine hK.out _ _ ⟨((HB.out.cell (World.block_lt_of_cell? w _ hw19001_0)).trans hw19001_0), ((HB.out.cell (World.block_lt_of_cell? w _ hw19001_1)).trans hw19001_1), ((HB.out.cell (World.block_lt_of_cell? w _ hw19001_2)).trans hw19001_2), ((HB.out.cell (World.block_lt_of_cell? w _ hw19001_3)).trans hw19001_3), ((HB.out.cell (World.block_lt_of_cell? w _ hw19001_4)).trans hw19001_4), ((HB.out.cell (World.block_lt_of_cell? w _ hw19002_0)).trans hw19002_0), ((HB.out.cell (World.block_lt_of_cell? w _ hw19002_1)).trans hw19002_1), ((HB.out.cell (World.block_lt_of_cell? w _ hw19002_2)).trans hw19002_2), ((HB.out.cell (World.block_lt_of_cell? w _ hw19002_3)).trans hw19002_3), ((HB.out.cell (World.block_lt_of_cell? w _ hw19002_4)).trans hw19002_4), ((HB.out.cell (World.block_lt_of_cell? w _ hw19003_0)).trans hw19003_0), ((HB.out.cell (World.block_lt_of_cell? w _ hw19003_1)).trans hw19003_1), ((HB.out.cell (World.block_lt_of_cell? w _ hw19003_2)).trans hw19003_2), ((HB.out.cell (World.block_lt_of_cell? w _ hw19003_3)).trans hw19003_3), ((HB.out.cell (World.block_lt_of_cell? w _ hw19003_4)).trans hw19003_4), ((HB.out.cell (World.block_lt_of_cell? w _ hw19007_0)).trans hw19007_0), ((HB.out.cell (World.block_lt_of_cell? w _ hw19007_1)).trans hw19007_1), ((HB.out.cell (World.block_lt_of_cell? w _ hw19007_2)).trans hw19007_2), ((HB.out.cell (World.block_lt_of_cell? w _ hw19007_3)).trans hw19007_3), ((HB.out.cell (World.block_lt_of_cell? w _ hw19007_4)).trans hw19007_4)⟩ (fun hHeld => ?_)
        clear hK K
        refine norm_ (a' := ?_) ?_ ?_
        rotate_left
        ·show Act.put _ (some 5) _ = _
         simp only [Act.put, List.setIfInBounds_toArray, List.set_cons_zero, List.set_cons_succ, i64_w, i32_w]
         rfl
        exact norm_ (by simp only [putAll, Act.put, List.setIfInBounds_toArray, List.set_cons_zero, List.set_cons_succ]) (hCont (.slice Ao10 t19004.length co10, .slice Ao9 t19008.length co9, gb19011) _ ⟨hHeld, (by (with_reducible repeat (first | apply Kd.R_alloc | apply Kd.R_drewN | apply Kd.R_drew)); exact Kd.R_mono HO19006.out (fun _ hk => hk.2)), (by (with_reducible repeat (first | apply Kd.R_alloc | apply Kd.R_drewN | apply Kd.R_drew)); exact Kd.R_mono HO19010.out (fun _ hk => hk.2)), (by (with_reducible repeat (first | apply Kd.R_alloc | apply Kd.R_drewN | apply Kd.R_drew)); exact Kd.R_mono HO_3.out (fun _ hk => ⟨hk.1.1.2, ⟨hk.1.2, hk.2⟩⟩)), (by (with_reducible repeat (first | refine blk_drewN ?_ _ | refine blk_drew ?_ | refine blk_alloc ?_ _)); exact BK19011.out), GW19011.out, GE19011.out, (by repeat (first | (with_reducible first | exact HB.out | apply below_alloc | apply pw_below_drewN | apply below_drew1 | refine below_set ?_ GE19011.out) | exact HB.out))⟩)
       ·skip
        refine box_step ?hg (N := 5) ?hd (cs := #[.string (⟨#[]⟩ : ByteArray), .slice none 0 0, .int .i64 0, .slice none 0 0, .slice none 0 0]) (t := 44) ?hr ?_; (case hd => rfl); (case hg => rfl); (case hr => first | (go_simp; done) | (go_simp; rfl))
        intro gb19011 hg w8 hbox hb
        have n0_ := Aside0.mk (Kd.R_below (Kd.R_elderB (by (with_reducible repeat (first | apply Kd.R_alloc | apply Kd.R_drewN | apply Kd.R_drew)); exact HO_3.out) gb19011 (Nat.le_of_eq hg.symm)) hb)
        have n1_ := Aside0.mk (Kd.R_below (by (with_reducible repeat (first | apply Kd.R_alloc | apply Kd.R_drewN | apply Kd.R_drew)); exact HO19006.out) hb)
        have n2_ := Aside0.mk (below_step (by repeat (first | (with_reducible first | exact HB.out | apply below_alloc | apply pw_below_drewN | apply below_drew1) | exact HB.out)) hb)
        have n3_ := Aside0.mk (hbox)
        have n4_ := Aside0.mk ((by rw [hg]; exact (below_size (by repeat (first | (with_reducible first | exact HB.out | apply below_alloc | apply pw_below_drewN | apply below_drew1) | exact HB.out))) : w.heap.size ≤ gb19011))
        have n5_ := Aside0.mk ((by rw [hg]; exact (below_size (by repeat (first | (with_reducible first | exact HB.out | apply below_alloc | apply pw_below_drewN | apply below_drew1) | exact HB.out))) : w.heap.size ≤ gb19011))
        clear HO_3
        clear HO19006
        clear HB
        have HO_3 := n0_
        have HO19006 := n1_
        have HB := n2_
        have BK19011 := n3_
        have GW19011 := n4_
        have GE19011 := n5_
        clear n0_ n1_ n2_ n3_ n4_ n5_
        clear hb hbox hg
        refine hK.out _ _ ⟨((HB.out.cell (World.block_lt_of_cell? w _ hw19001_0)).trans hw19001_0), ((HB.out.cell (World.block_lt_of_cell? w _ hw19001_1)).trans hw19001_1), ((HB.out.cell (World.block_lt_of_cell? w _ hw19001_2)).trans hw19001_2), ((HB.out.cell (World.block_lt_of_cell? w _ hw19001_3)).trans hw19001_3), ((HB.out.cell (World.block_lt_of_cell? w _ hw19001_4)).trans hw19001_4), ((HB.out.cell (World.block_lt_of_cell? w _ hw19002_0)).trans hw19002_0), ((HB.out.cell (World.block_lt_of_cell? w _ hw19002_1)).trans hw19002_1), ((HB.out.cell (World.block_lt_of_cell? w _ hw19002_2)).trans hw19002_2), ((HB.out.cell (World.block_lt_of_cell? w _ hw19002_3)).trans hw19002_3), ((HB.out.cell (World.block_lt_of_cell? w _ hw19002_4)).trans hw19002_4), ((HB.out.cell (World.block_lt_of_cell? w _ hw19003_0)).trans hw19003_0), ((HB.out.cell (World.block_lt_of_cell? w _ hw19003_1)).trans hw19003_1), ((HB.out.cell (World.block_lt_of_cell? w _ hw19003_2)).trans hw19003_2), ((HB.out.cell (World.block_lt_of_cell? w _ hw19003_3)).trans hw19003_3), ((HB.out.cell (World.block_lt_of_cell? w _ hw19003_4)).trans hw19003_4), ((HB.out.cell (World.block_lt_of_cell? w _ hw19007_0)).trans hw19007_0), ((HB.out.cell (World.block_lt_of_cell? w _ hw19007_1)).trans hw19007_1), ((HB.out.cell (World.block_lt_of_cell? w _ hw19007_2)).trans hw19007_2), ((HB.out.cell (World.block_lt_of_cell? w _ hw19007_3)).trans hw19007_3), ((HB.out.cell (World.block_lt_of_cell? w _ hw19007_4)).trans hw19007_4)⟩ (fun hHeld => ?_)
        clear hK K
        refine norm_ (a' := ?_) ?_ ?_
        rotate_left
        ·show Act.put _ (some 5) _ = _
         simp only [Act.put, List.setIfInBounds_toArray, List.set_cons_zero, List.set_cons_succ, i64_w, i32_w]
         rfl
        refine one_ (i := 21) (N := some 34) #[true, true, true, true, true, true, true, true, true, true, true, true, true, true, true, true, true, true, true, true, true, true, false, true, false] rfl rfl (one_of HT_.out (by kernel_rfl)) (by decide) (fun K hK => ?_)
        refine goes_ Tryd.func51 (by kernel_rfl) rfl #[.slice A19001_4 ((rd_T44 l0 x4_1).f4).length c19001_4] (by rfl) rfl rfl (by (try simp only [List.map_toArray, List.map_cons, List.map_nil]); first | done | rfl | (simp only [List.length_drop, List.length_take]; rfl)) ?_
        with_reducible refine (tinderref03_Copy.calls _ _ ((rd_T44 l0 x4_1).f4) t19008 _ ?side1 ?side2 A5.out).mono ?_
        (case side1 => repeat (first | exact (Kd.C_below HR19007_4.out HB.out) | (with_reducible refine Kd.C_alloc ?_ _) | (with_reducible refine Kd.C_drewN ?_ _) | (with_reducible refine Kd.C_drew ?_)))
        (case side2 => exact HC19007_4.out)
        rintro e w9 ⟨v19009, rfl, ho0, hb⟩
        refine ⟨_, rfl, ?_⟩
        have n0_ := Aside0.mk (Kd.R_elder' (by (with_reducible repeat (first | apply Kd.R_alloc | apply Kd.R_drewN | apply Kd.R_drew)); exact HO_3.out) (Kd.R_base ho0) hb)
        have n1_ := Aside0.mk (Kd.R_elder' (by (with_reducible repeat (first | apply Kd.R_alloc | apply Kd.R_drewN | apply Kd.R_drew)); exact HO19006.out) (Kd.R_base ho0) hb)
        have n2_ := Aside0.mk (Kd.R_lower (Kd.R_new' ho0 (Kd.R_lt (by (with_reducible repeat (first | apply Kd.R_alloc | apply Kd.R_drewN | apply Kd.R_drew)); exact HO19006.out))) (below_size (by repeat (first | (with_reducible first | exact HB.out | apply below_alloc | apply pw_below_drewN | apply below_drew1 | refine below_set ?_ GE19011.out) | exact HB.out))))
        have n3_ := Aside0.mk (blk_below (g := gb19011) (o := .cells #[.string (⟨#[]⟩ : ByteArray), .slice none 0 0, .int .i64 0, .slice none 0 0, .slice none 0 0] 44 (0, 0)) (by (with_reducible repeat (first | refine blk_drewN ?_ _ | refine blk_drew ?_ | refine blk_alloc ?_ _)); exact BK19011.out) hb)
        have n4_ := Aside0.mk (below_step (by repeat (first | (with_reducible first | exact HB.out | apply below_alloc | apply pw_below_drewN | apply below_drew1 | refine below_set ?_ GE19011.out) | exact HB.out)) hb)
        clear HO_3
        clear HO19006
        clear BK19011
        clear HB
        have HO_3 := n0_
        have HO19006 := n1_
        have HO19010 := n2_
        have BK19011 := n3_
        have HB := n4_
        clear n0_ n1_ n2_ n3_ n4_
        (try clear hb)
        (try clear hb2)
        (try clear hk)
        (try clear hi)
        (try clear ho0)
        obtain ⟨Ao10, co10, eo10⟩ := Kd.R_slice HO19010.out
        (first | subst eo10 | (injection eo10 with f1_ f2_ f3_; have f4_ := f1_.symm; have f5_ := f3_.symm; clear f1_ f2_ f3_; subst f4_; subst f5_))
        obtain ⟨Ao11, co11, eo11⟩ := Kd.R_slice HO19006.out
        (first | subst eo11 | (injection eo11 with f1_ f2_ f3_; have f4_ := f1_.symm; have f5_ := f3_.symm; clear f1_ f2_ f3_; subst f4_; subst f5_))
        refine hK.out _ _ ⟨((HB.out.cell (World.block_lt_of_cell? w _ hw19001_0)).trans hw19001_0), ((HB.out.cell (World.block_lt_of_cell? w _ hw19001_1)).trans hw19001_1), ((HB.out.cell (World.block_lt_of_cell? w _ hw19001_2)).trans hw19001_2), ((HB.out.cell (World.block_lt_of_cell? w _ hw19001_3)).trans hw19001_3), ((HB.out.cell (World.block_lt_of_cell? w _ hw19001_4)).trans hw19001_4), ((HB.out.cell (World.block_lt_of_cell? w _ hw19002_0)).trans hw19002_0), ((HB.out.cell (World.block_lt_of_cell? w _ hw19002_1)).trans hw19002_1), ((HB.out.cell (World.block_lt_of_cell? w _ hw19002_2)).trans hw19002_2), ((HB.out.cell (World.block_lt_of_cell? w _ hw19002_3)).trans hw19002_3), ((HB.out.cell (World.block_lt_of_cell? w _ hw19002_4)).trans hw19002_4), ((HB.out.cell (World.block_lt_of_cell? w _ hw19003_0)).trans hw19003_0), ((HB.out.cell (World.block_lt_of_cell? w _ hw19003_1)).trans hw19003_1), ((HB.out.cell (World.block_lt_of_cell? w _ hw19003_2)).trans hw19003_2), ((HB.out.cell (World.block_lt_of_cell? w _ hw19003_3)).trans hw19003_3), ((HB.out.cell (World.block_lt_of_cell? w _ hw19003_4)).trans hw19003_4), ((HB.out.cell (World.block_lt_of_cell? w _ hw19007_0)).trans hw19007_0), ((HB.out.cell (World.block_lt_of_cell? w _ hw19007_1)).trans hw19007_1), ((HB.out.cell (World.block_lt_of_cell? w _ hw19007_2)).trans hw19007_2), ((HB.out.cell (World.block_lt_of_cell? w _ hw19007_3)).trans hw19007_3), ((HB.out.cell (World.block_lt_of_cell? w _ hw19007_4)).trans hw19007_4)⟩ (fun hHeld => ?_)
        clear hK K
        refine norm_ (a' := ?_) ?_ ?_
        rotate_left
        ·show Act.put _ (some 34) _ = _
         simp only [Act.put, List.setIfInBounds_toArray, List.set_cons_zero, List.set_cons_succ, i64_w, i32_w]
         rfl
        refine pure_ (i := 22) (N := some 35) (v := ?_) (a' := ?_) #[true, true, true, true, true, true, true, true, true, true, true, true, true, true, true, true, true, true, true, true, true, true, true, true, false] rfl rfl (any_of HT_.out (by kernel_rfl)) (fun _ _ _ h => h) (Or.inl ⟨by rfl, ?_⟩) ?_ ?_
        rotate_left
        ·intro w'
         go_simp
         with_reducible rfl
        rotate_left
        ·simp only [Act.put, List.setIfInBounds_toArray, List.set_cons_zero, List.set_cons_succ, i64_w, i32_w]
         rfl
        exact norm_ (by simp only [putAll, Act.put, List.setIfInBounds_toArray, List.set_cons_zero, List.set_cons_succ]) (hCont (.slice Ao11 t19004.length co11, .slice Ao10 t19008.length co10, gb19011) _ ⟨hHeld, (by (with_reducible repeat (first | apply Kd.R_alloc | apply Kd.R_drewN | apply Kd.R_drew)); exact Kd.R_mono HO19006.out (fun _ hk => hk.2)), (by (with_reducible repeat (first | apply Kd.R_alloc | apply Kd.R_drewN | apply Kd.R_drew)); exact Kd.R_mono HO19010.out (fun _ hk => hk.2)), (by (with_reducible repeat (first | apply Kd.R_alloc | apply Kd.R_drewN | apply Kd.R_drew)); exact Kd.R_mono HO_3.out (fun _ hk => ⟨hk.1.1.2, ⟨hk.2, hk.1.2⟩⟩)), (by (with_reducible repeat (first | refine blk_drewN ?_ _ | refine blk_drew ?_ | refine blk_alloc ?_ _)); exact BK19011.out), GW19011.out, GE19011.out, (by repeat (first | (with_reducible first | exact HB.out | apply below_alloc | apply pw_below_drewN | apply below_drew1 | refine below_set ?_ GE19011.out) | exact HB.out))⟩)
      ·skip
       refine box_step ?hg (N := 5) ?hd (cs := #[.string (⟨#[]⟩ : ByteArray), .slice none 0 0, .int .i64 0, .slice none 0 0, .slice none 0 0]) (t := 44) ?hr ?_; (case hd => rfl); (case hg => rfl); (case hr => first | (go_simp; done) | (go_simp; rfl))
       intro gb19011 hg w7 hbox hb
       have n0_ := Aside0.mk (Kd.R_below (Kd.R_elderB (by (with_reducible repeat (first | apply Kd.R_alloc | apply Kd.R_drewN | apply Kd.R_drew)); exact HO_3.out) gb19011 (Nat.le_of_eq hg.symm)) hb)
       have n1_ := Aside0.mk (below_step (by repeat (first | (with_reducible first | exact HB.out | apply below_alloc | apply pw_below_drewN | apply below_drew1) | exact HB.out)) hb)
       have n2_ := Aside0.mk (hbox)
       have n3_ := Aside0.mk ((by rw [hg]; exact (below_size (by repeat (first | (with_reducible first | exact HB.out | apply below_alloc | apply pw_below_drewN | apply below_drew1) | exact HB.out))) : w.heap.size ≤ gb19011))
       have n4_ := Aside0.mk ((by rw [hg]; exact (below_size (by repeat (first | (with_reducible first | exact HB.out | apply below_alloc | apply pw_below_drewN | apply below_drew1) | exact HB.out))) : w.heap.size ≤ gb19011))
       clear HO_3
       clear HB
       have HO_3 := n0_
       have HB := n1_
       have BK19011 := n2_
       have GW19011 := n3_
       have GE19011 := n4_
       clear n0_ n1_ n2_ n3_ n4_
       clear hb hbox hg
       refine hK.out _ _ ⟨((HB.out.cell (World.block_lt_of_cell? w _ hw19001_0)).trans hw19001_0), ((HB.out.cell (World.block_lt_of_cell? w _ hw19001_1)).trans hw19001_1), ((HB.out.cell (World.block_lt_of_cell? w _ hw19001_2)).trans hw19001_2), ((HB.out.cell (World.block_lt_of_cell? w _ hw19001_3)).trans hw19001_3), ((HB.out.cell (World.block_lt_of_cell? w _ hw19001_4)).trans hw19001_4), ((HB.out.cell (World.block_lt_of_cell? w _ hw19002_0)).trans hw19002_0), ((HB.out.cell (World.block_lt_of_cell? w _ hw19002_1)).trans hw19002_1), ((HB.out.cell (World.block_lt_of_cell? w _ hw19002_2)).trans hw19002_2), ((HB.out.cell (World.block_lt_of_cell? w _ hw19002_3)).trans hw19002_3), ((HB.out.cell (World.block_lt_of_cell? w _ hw19002_4)).trans hw19002_4), ((HB.out.cell (World.block_lt_of_cell? w _ hw19003_0)).trans hw19003_0), ((HB.out.cell (World.block_lt_of_cell? w _ hw19003_1)).trans hw19003_1), ((HB.out.cell (World.block_lt_of_cell? w _ hw19003_2)).trans hw19003_2), ((HB.out.cell (World.block_lt_of_cell? w _ hw19003_3)).trans hw19003_3), ((HB.out.cell (World.block_lt_of_cell? w _ hw19003_4)).trans hw19003_4), ((HB.out.cell (World.block_lt_of_cell? w _ hw19007_0)).trans hw19007_0), ((HB.out.cell (World.block_lt_of_cell? w _ hw19007_1)).trans hw19007_1), ((HB.out.cell (World.block_lt_of_cell? w _ hw19007_2)).trans hw19007_2), ((HB.out.cell (World.block_lt_of_cell? w _ hw19007_3)).trans hw19007_3), ((HB.out.cell (World.block_lt_of_cell? w _ hw19007_4)).trans hw19007_4)⟩ (fun hHeld => ?_)
       clear hK K
       refine norm_ (a' := ?_) ?_ ?_
       rotate_left
       ·show Act.put _ (some 5) _ = _
        simp only [Act.put, List.setIfInBounds_toArray, List.set_cons_zero, List.set_cons_succ, i64_w, i32_w]
        rfl
       refine one_ (i := 15) (N := some 28) #[true, true, true, true, true, true, true, true, true, true, true, true, true, true, true, true, true, true, true, true, true, false, false, true, false] rfl rfl (one_of HT_.out (by kernel_rfl)) (by decide) (fun K hK => ?_)
       refine goes_ Tryd.func51 (by kernel_rfl) rfl #[.slice A19001_1 ((rd_T44 l0 x4_1).f1).length c19001_1] (by rfl) rfl rfl (by (try simp only [List.map_toArray, List.map_cons, List.map_nil]); first | done | rfl | (simp only [List.length_drop, List.length_take]; rfl)) ?_
       with_reducible refine (tinderref03_Copy.calls _ _ ((rd_T44 l0 x4_1).f1) t19004 _ ?side1 ?side2 A4.out).mono ?_
       (case side1 => repeat (first | exact (Kd.C_below HR19003_1.out HB.out) | (with_reducible refine Kd.C_alloc ?_ _) | (with_reducible refine Kd.C_drewN ?_ _) | (with_reducible refine Kd.C_drew ?_)))
       (case side2 => exact HC19003_1.out)
       rintro e w8 ⟨v19005, rfl, ho0, hb⟩
       refine ⟨_, rfl, ?_⟩
       have n0_ := Aside0.mk (Kd.R_elder' (by (with_reducible repeat (first | apply Kd.R_alloc | apply Kd.R_drewN | apply Kd.R_drew)); exact HO_3.out) (Kd.R_base ho0) hb)
       have n1_ := Aside0.mk (Kd.R_lower ho0 (below_size (by repeat (first | (with_reducible first | exact HB.out | apply below_alloc | apply pw_below_drewN | apply below_drew1 | refine below_set ?_ GE19011.out) | exact HB.out))))
       have n2_ := Aside0.mk (blk_below (g := gb19011) (o := .cells #[.string (⟨#[]⟩ : ByteArray), .slice none 0 0, .int .i64 0, .slice none 0 0, .slice none 0 0] 44 (0, 0)) (by (with_reducible repeat (first | refine blk_drewN ?_ _ | refine blk_drew ?_ | refine blk_alloc ?_ _)); exact BK19011.out) hb)
       have n3_ := Aside0.mk (below_step (by repeat (first | (with_reducible first | exact HB.out | apply below_alloc | apply pw_below_drewN | apply below_drew1 | refine below_set ?_ GE19011.out) | exact HB.out)) hb)
       clear HO_3
       clear BK19011
       clear HB
       have HO_3 := n0_
       have HO19006 := n1_
       have BK19011 := n2_
       have HB := n3_
       clear n0_ n1_ n2_ n3_
       (try clear hb)
       (try clear hb2)
       (try clear hk)
       (try clear hi)
       (try clear ho0)
       refine hK.out _ _ ⟨((HB.out.cell (World.block_lt_of_cell? w _ hw19001_0)).trans hw19001_0), ((HB.out.cell (World.block_lt_of_cell? w _ hw19001_1)).trans hw19001_1), ((HB.out.cell (World.block_lt_of_cell? w _ hw19001_2)).trans hw19001_2), ((HB.out.cell (World.block_lt_of_cell? w _ hw19001_3)).trans hw19001_3), ((HB.out.cell (World.block_lt_of_cell? w _ hw19001_4)).trans hw19001_4), ((HB.out.cell (World.block_lt_of_cell? w _ hw19002_0)).trans hw19002_0), ((HB.out.cell (World.block_lt_of_cell? w _ hw19002_1)).trans hw19002_1), ((HB.out.cell (World.block_lt_of_cell? w _ hw19002_2)).trans hw19002_2), ((HB.out.cell (World.block_lt_of_cell? w _ hw19002_3)).trans hw19002_3), ((HB.out.cell (World.block_lt_of_cell? w _ hw19002_4)).trans hw19002_4), ((HB.out.cell (World.block_lt_of_cell? w _ hw19003_0)).trans hw19003_0), ((HB.out.cell (World.block_lt_of_cell? w _ hw19003_1)).trans hw19003_1), ((HB.out.cell (World.block_lt_of_cell? w _ hw19003_2)).trans hw19003_2), ((HB.out.cell (World.block_lt_of_cell? w _ hw19003_3)).trans hw19003_3), ((HB.out.cell (World.block_lt_of_cell? w _ hw19003_4)).trans hw19003_4), ((HB.out.cell (World.block_lt_of_cell? w _ hw19007_0)).trans hw19007_0), ((HB.out.cell (World.block_lt_of_cell? w _ hw19007_1)).trans hw19007_1), ((HB.out.cell (World.block_lt_of_cell? w _ hw19007_2)).trans hw19007_2), ((HB.out.cell (World.block_lt_of_cell? w _ hw19007_3)).trans hw19007_3), ((HB.out.cell (World.block_lt_of_cell? w _ hw19007_4)).trans hw19007_4)⟩ (fun hHeld => ?_)
       clear hK K
       refine norm_ (a' := ?_) ?_ ?_
       rotate_left
       ·show Act.put _ (some 28) _ = _
        simp only [Act.put, List.setIfInBounds_toArray, List.set_cons_zero, List.set_cons_succ, i64_w, i32_w]
        rfl
       refine one_ (i := 21) (N := some 34) #[true, true, true, true, true, true, true, true, true, true, true, true, true, true, true, true, true, true, true, true, true, true, false, true, false] rfl rfl (one_of HT_.out (by kernel_rfl)) (by decide) (fun K hK => ?_)
       refine goes_ Tryd.func51 (by kernel_rfl) rfl #[.slice A19001_4 ((rd_T44 l0 x4_1).f4).length c19001_4] (by rfl) rfl rfl (by (try simp only [List.map_toArray, List.map_cons, List.map_nil]); first | done | rfl | (simp only [List.length_drop, List.length_take]; rfl)) ?_
       with_reducible refine (tinderref03_Copy.calls _ _ ((rd_T44 l0 x4_1).f4) t19008 _ ?side1 ?side2 A5.out).mono ?_
       (case side1 => repeat (first | exact (Kd.C_below HR19007_4.out HB.out) | (with_reducible refine Kd.C_alloc ?_ _) | (with_reducible refine Kd.C_drewN ?_ _) | (with_reducible refine Kd.C_drew ?_)))
       (case side2 => exact HC19007_4.out)
       rintro e w9 ⟨v19009, rfl, ho0, hb⟩
       refine ⟨_, rfl, ?_⟩
       have n0_ := Aside0.mk (Kd.R_elder' (by (with_reducible repeat (first | apply Kd.R_alloc | apply Kd.R_drewN | apply Kd.R_drew)); exact HO_3.out) (Kd.R_base ho0) hb)
       have n1_ := Aside0.mk (Kd.R_elder' (by (with_reducible repeat (first | apply Kd.R_alloc | apply Kd.R_drewN | apply Kd.R_drew)); exact HO19006.out) (Kd.R_base ho0) hb)
       have n2_ := Aside0.mk (Kd.R_lower (Kd.R_new' ho0 (Kd.R_lt (by (with_reducible repeat (first | apply Kd.R_alloc | apply Kd.R_drewN | apply Kd.R_drew)); exact HO19006.out))) (below_size (by repeat (first | (with_reducible first | exact HB.out | apply below_alloc | apply pw_below_drewN | apply below_drew1 | refine below_set ?_ GE19011.out) | exact HB.out))))
       have n3_ := Aside0.mk (blk_below (g := gb19011) (o := .cells #[.string (⟨#[]⟩ : ByteArray), .slice none 0 0, .int .i64 0, .slice none 0 0, .slice none 0 0] 44 (0, 0)) (by (with_reducible repeat (first | refine blk_drewN ?_ _ | refine blk_drew ?_ | refine blk_alloc ?_ _)); exact BK19011.out) hb)
       have n4_ := Aside0.mk (below_step (by repeat (first | (with_reducible first | exact HB.out | apply below_alloc | apply pw_below_drewN | apply below_drew1 | refine below_set ?_ GE19011.out) | exact HB.out)) hb)
       clear HO_3
       clear HO19006
       clear BK19011
       clear HB
       have HO_3 := n0_
       have HO19006 := n1_
       have HO19010 := n2_
       have BK19011 := n3_
       have HB := n4_
       clear n0_ n1_ n2_ n3_ n4_
       (try clear hb)
       (try clear hb2)
       (try clear hk)
       (try clear hi)
       (try clear ho0)
       obtain ⟨Ao10, co10, eo10⟩ := Kd.R_slice HO19010.out
       (first | subst eo10 | (injection eo10 with f1_ f2_ f3_; have f4_ := f1_.symm; have f5_ := f3_.symm; clear f1_ f2_ f3_; subst f4_; subst f5_))
       obtain ⟨Ao11, co11, eo11⟩ := Kd.R_slice HO19006.out
       (first | subst eo11 | (injection eo11 with f1_ f2_ f3_; have f4_ := f1_.symm; have f5_ := f3_.symm; clear f1_ f2_ f3_; subst f4_; subst f5_))
       refine hK.out _ _ ⟨((HB.out.cell (World.block_lt_of_cell? w _ hw19001_0)).trans hw19001_0), ((HB.out.cell (World.block_lt_of_cell? w _ hw19001_1)).trans hw19001_1), ((HB.out.cell (World.block_lt_of_cell? w _ hw19001_2)).trans hw19001_2), ((HB.out.cell (World.block_lt_of_cell? w _ hw19001_3)).trans hw19001_3), ((HB.out.cell (World.block_lt_of_cell? w _ hw19001_4)).trans hw19001_4), ((HB.out.cell (World.block_lt_of_cell? w _ hw19002_0)).trans hw19002_0), ((HB.out.cell (World.block_lt_of_cell? w _ hw19002_1)).trans hw19002_1), ((HB.out.cell (World.block_lt_of_cell? w _ hw19002_2)).trans hw19002_2), ((HB.out.cell (World.block_lt_of_cell? w _ hw19002_3)).trans hw19002_3), ((HB.out.cell (World.block_lt_of_cell? w _ hw19002_4)).trans hw19002_4), ((HB.out.cell (World.block_lt_of_cell? w _ hw19003_0)).trans hw19003_0), ((HB.out.cell (World.block_lt_of_cell? w _ hw19003_1)).trans hw19003_1), ((HB.out.cell (World.block_lt_of_cell? w _ hw19003_2)).trans hw19003_2), ((HB.out.cell (World.block_lt_of_cell? w _ hw19003_3)).trans hw19003_3), ((HB.out.cell (World.block_lt_of_cell? w _ hw19003_4)).trans hw19003_4), ((HB.out.cell (World.block_lt_of_cell? w _ hw19007_0)).trans hw19007_0), ((HB.out.cell (World.block_lt_of_cell? w _ hw19007_1)).trans hw19007_1), ((HB.out.cell (World.block_lt_of_cell? w _ hw19007_2)).trans hw19007_2), ((HB.out.cell (World.block_lt_of_cell? w _ hw19007_3)).trans hw19007_3), ((HB.out.cell (World.block_lt_of_cell? w _ hw19007_4)).trans hw19007_4)⟩ (fun hHeld => ?_)
       clear hK K
       refine norm_ (a' := ?_) ?_ ?_
       rotate_left
       ·show Act.put _ (some 34) _ = _
        simp only [Act.put, List.setIfInBounds_toArray, List.set_cons_zero, List.set_cons_succ, i64_w, i32_w]
        rfl
       refine pure_ (i := 22) (N := some 35) (v := ?_) (a' := ?_) #[true, true, true, true, true, true, true, true, true, true, true, true, true, true, true, true, true, true, true, true, true, true, true, true, false] rfl rfl (any_of HT_.out (by kernel_rfl)) (fun _ _ _ h => h) (Or.inl ⟨by rfl, ?_⟩) ?_ ?_
       rotate_left
       ·intro w'
        go_simp
        with_reducible rfl
       rotate_left
       ·simp only [Act.put, List.setIfInBounds_toArray, List.set_cons_zero, List.set_cons_succ, i64_w, i32_w]
        rfl
       exact norm_ (by simp only [putAll, Act.put, List.setIfInBounds_toArray, List.set_cons_zero, List.set_cons_succ]) (hCont (.slice Ao11 t19004.length co11, .slice Ao10 t19008.length co10, gb19011) _ ⟨hHeld, (by (with_reducible repeat (first | apply Kd.R_alloc | apply Kd.R_drewN | apply Kd.R_drew)); exact Kd.R_mono HO19006.out (fun _ hk => hk.2)), (by (with_reducible repeat (first | apply Kd.R_alloc | apply Kd.R_drewN | apply Kd.R_drew)); exact Kd.R_mono HO19010.out (fun _ hk => hk.2)), (by (with_reducible repeat (first | apply Kd.R_alloc | apply Kd.R_drewN | apply Kd.R_drew)); exact Kd.R_mono HO_3.out (fun _ hk => ⟨hk.1.2, ⟨hk.2, hk.1.1.2⟩⟩)), (by (with_reducible repeat (first | refine blk_drewN ?_ _ | refine blk_drew ?_ | refine blk_alloc ?_ _)); exact BK19011.out), GW19011.out, GE19011.out, (by repeat (first | (with_reducible first | exact HB.out | apply below_alloc | apply pw_below_drewN | apply below_drew1 | refine below_set ?_ GE19011.out) | exact HB.out))⟩)
     rintro ⟨v19005, v19009, gb19011⟩ w12 ⟨hS_, h0_, h1_, h2_, h3_, h4_, h5_, h6_⟩
     have n0_ : Aside0 (Kd.R (Kd.int .u32) 66 w12 w.heap.size (fun k_ => some k_ ≠ (v19009 : Value).ownBlock) v19005 t19004) := ⟨h0_⟩
     have n1_ : Aside0 (Kd.R (Kd.int .u32) 66 w12 w.heap.size (fun k_ => some k_ ≠ (v19005 : Value).ownBlock) v19009 t19008) := ⟨h1_⟩
     have n2_ : Aside0 (Kd.R k44 44 w12 w.heap.size (fun k_ => some k_ ≠ (v19005 : Value).ownBlock ∧ some k_ ≠ (v19009 : Value).ownBlock ∧ k_ ≠ gb19011) u3 x3_1) := ⟨h2_⟩
     have n3_ : Aside0 (w12.heap[gb19011]? = some (.cells #[.string (⟨#[]⟩ : ByteArray), .slice none 0 0, .int .i64 0, .slice none 0 0, .slice none 0 0] 44 (0, 0))) := ⟨h3_⟩
     have n4_ : Aside0 (w.heap.size ≤ gb19011) := ⟨h4_⟩
     have n5_ : Aside0 (w.heap.size ≤ gb19011) := ⟨h5_⟩
     have n6_ : Aside0 (Below w.heap.size w w12) := ⟨h6_⟩
     clear HO_3
     clear HB
     clear h0_ h1_ h2_ h3_ h4_ h5_ h6_
     have HO19006 := n0_
     have HO19010 := n1_
     have HO_3 := n2_
     have BK19011 := n3_
     have GW19011 := n4_
     have GE19011 := n5_
     have HB := n6_
     clear n0_ n1_ n2_ n3_ n4_ n5_ n6_
     have hHeld : w12.cell? (ad19001.add ((x4_1).toNat * 5)) = some (.string ((rd_T44 l0 x4_1).f0)) ∧ w12.cell? ⟨(ad19001.add ((x4_1).toNat * 5)).block, (ad19001.add ((x4_1).toNat * 5)).off + 1, none⟩ = some (.slice A19001_1 ((rd_T44 l0 x4_1).f1).length c19001_1) ∧ w12.cell? ⟨(ad19001.add ((x4_1).toNat * 5)).block, (ad19001.add ((x4_1).toNat * 5)).off + 2, none⟩ = some (.int .i64 ((rd_T44 l0 x4_1).f2)) ∧ w12.cell? ⟨(ad19001.add ((x4_1).toNat * 5)).block, (ad19001.add ((x4_1).toNat * 5)).off + 3, none⟩ = some (.slice A19001_3 ((rd_T44 l0 x4_1).f3).length c19001_3) ∧ w12.cell? ⟨(ad19001.add ((x4_1).toNat * 5)).block, (ad19001.add ((x4_1).toNat * 5)).off + 4, none⟩ = some (.slice A19001_4 ((rd_T44 l0 x4_1).f4).length c19001_4) ∧ w12.cell? (ad19001.add ((x4_1).toNat * 5)) = some (.string ((rd_T44 l0 x4_1).f0)) ∧ w12.cell? ⟨(ad19001.add ((x4_1).toNat * 5)).block, (ad19001.add ((x4_1).toNat * 5)).off + 1, none⟩ = some (.slice A19001_1 ((rd_T44 l0 x4_1).f1).length c19001_1) ∧ w12.cell? ⟨(ad19001.add ((x4_1).toNat * 5)).block, (ad19001.add ((x4_1).toNat * 5)).off + 2, none⟩ = some (.int .i64 ((rd_T44 l0 x4_1).f2)) ∧ w12.cell? ⟨(ad19001.add ((x4_1).toNat * 5)).block, (ad19001.add ((x4_1).toNat * 5)).off + 3, none⟩ = some (.slice A19001_3 ((rd_T44 l0 x4_1).f3).length c19001_3) ∧ w12.cell? ⟨(ad19001.add ((x4_1).toNat * 5)).block, (ad19001.add ((x4_1).toNat * 5)).off + 4, none⟩ = some (.slice A19001_4 ((rd_T44 l0 x4_1).f4).length c19001_4) ∧ w12.cell? (ad19001.add ((x4_1).toNat * 5)) = some (.string ((rd_T44 l0 x4_1).f0)) ∧ w12.cell? ⟨(ad19001.add ((x4_1).toNat * 5)).block, (ad19001.add ((x4_1).toNat * 5)).off + 1, none⟩ = some (.slice A19001_1 ((rd_T44 l0 x4_1).f1).length c19001_1) ∧ w12.cell? ⟨(ad19001.add ((x4_1).toNat * 5)).block, (ad19001.add ((x4_1).toNat * 5)).off + 2, none⟩ = some (.int .i64 ((rd_T44 l0 x4_1).f2)) ∧ w12.cell? ⟨(ad19001.add ((x4_1).toNat * 5)).block, (ad19001.add ((x4_1).toNat * 5)).off + 3, none⟩ = some (.slice A19001_3 ((rd_T44 l0 x4_1).f3).length c19001_3) ∧ w12.cell? ⟨(ad19001.add ((x4_1).toNat * 5)).block, (ad19001.add ((x4_1).toNat * 5)).off + 4, none⟩ = some (.slice A19001_4 ((rd_T44 l0 x4_1).f4).length c19001_4) ∧ w12.cell? (ad19001.add ((x4_1).toNat * 5)) = some (.string ((rd_T44 l0 x4_1).f0)) ∧ w12.cell? ⟨(ad19001.add ((x4_1).toNat * 5)).block, (ad19001.add ((x4_1).toNat * 5)).off + 1, none⟩ = some (.slice A19001_1 ((rd_T44 l0 x4_1).f1).length c19001_1) ∧ w12.cell? ⟨(ad19001.add ((x4_1).toNat * 5)).block, (ad19001.add ((x4_1).toNat * 5)).off + 2, none⟩ = some (.int .i64 ((rd_T44 l0 x4_1).f2)) ∧ w12.cell? ⟨(ad19001.add ((x4_1).toNat * 5)).block, (ad19001.add ((x4_1).toNat * 5)).off + 3, none⟩ = some (.slice A19001_3 ((rd_T44 l0 x4_1).f3).length c19001_3) ∧ w12.cell? ⟨(ad19001.add ((x4_1).toNat * 5)).block, (ad19001.add ((x4_1).toNat * 5)).off + 4, none⟩ = some (.slice A19001_4 ((rd_T44 l0 x4_1).f4).length c19001_4) := hS_
     obtain ⟨Ao13, co13, eo13⟩ := Kd.R_slice HO19010.out
     (first | subst eo13 | (injection eo13 with f1_ f2_ f3_; have f4_ := f1_.symm; have f5_ := f3_.symm; clear f1_ f2_ f3_; subst f4_; subst f5_))
     obtain ⟨Ao14, co14, eo14⟩ := Kd.R_slice HO19006.out
     (first | subst eo14 | (injection eo14 with f1_ f2_ f3_; have f4_ := f1_.symm; have f5_ := f3_.symm; clear f1_ f2_ f3_; subst f4_; subst f5_))
     refine norm_ (a' := ?_) ?_ ?_
     rotate_left
     ·simp only [putAll, Act.put, List.setIfInBounds_toArray, List.set_cons_zero, List.set_cons_succ]
      rfl
     refine one_ (i := 24) (N := none) #[true, true, true, true, true, true, true, true, true, true, true, true, true, true, true, true, true, true, true, true, true, true, true, true, true] rfl rfl (one_of HT_.out (by kernel_rfl)) (by decide) (fun K hK => ?_)
     have hs15 : w12.cell? ⟨gb19011, 0, none⟩ = some (.string (⟨#[]⟩ : ByteArray)) := (blk_cell BK19011.out 0).trans rfl
     have hfs15 := blk_frozen BK19011.out 0
     have hs16 : w12.cell? ⟨gb19011, 1, none⟩ = some (.slice none 0 0) := (blk_cell BK19011.out 1).trans rfl
     have hfs16 := blk_frozen BK19011.out 1
     have hs17 : w12.cell? ⟨gb19011, 2, none⟩ = some (.int .i64 0) := (blk_cell BK19011.out 2).trans rfl
     have hfs17 := blk_frozen BK19011.out 2
     have hs18 : w12.cell? ⟨gb19011, 3, none⟩ = some (.slice none 0 0) := (blk_cell BK19011.out 3).trans rfl
     have hfs18 := blk_frozen BK19011.out 3
     have hs19 : w12.cell? ⟨gb19011, 4, none⟩ = some (.slice none 0 0) := (blk_cell BK19011.out 4).trans rfl
     have hfs19 := blk_frozen BK19011.out 4
     refine skip_ (w1 := ?_) (by rfl) rfl ?_ ?_
     rotate_left
     ·go_simp
      rfl
     refine hK.out _ _ ⟨((cell_far (p := ⟨gb19011, _, none⟩) (by first | exact Nat.ne_of_lt (Nat.lt_of_lt_of_le (by have := World.block_lt_of_cell? _ _ hw19001_0; first | rwa [add_block] at this | exact this) GW19011.out) | (rw [add_block]; exact Nat.ne_of_lt (Nat.lt_of_lt_of_le (by have := World.block_lt_of_cell? _ _ hw19001_0; first | rwa [add_block] at this | exact this) GW19011.out)) | (show (Addr.add _ _).block ≠ _; rw [add_block]; exact Nat.ne_of_lt (Nat.lt_of_lt_of_le (by have := World.block_lt_of_cell? _ _ hw19001_0; first | rwa [add_block] at this | exact this) GW19011.out)) | (dsimp only; exact Nat.ne_of_lt (Nat.lt_of_lt_of_le (by have := World.block_lt_of_cell? _ _ hw19001_0; first | rwa [add_block] at this | exact this) GW19011.out))) _).trans (((cell_far (p := ⟨gb19011, _, none⟩) (by first | exact Nat.ne_of_lt (Nat.lt_of_lt_of_le (by have := World.block_lt_of_cell? _ _ hw19001_0; first | rwa [add_block] at this | exact this) GW19011.out) | (rw [add_block]; exact Nat.ne_of_lt (Nat.lt_of_lt_of_le (by have := World.block_lt_of_cell? _ _ hw19001_0; first | rwa [add_block] at this | exact this) GW19011.out)) | (show (Addr.add _ _).block ≠ _; rw [add_block]; exact Nat.ne_of_lt (Nat.lt_of_lt_of_le (by have := World.block_lt_of_cell? _ _ hw19001_0; first | rwa [add_block] at this | exact this) GW19011.out)) | (dsimp only; exact Nat.ne_of_lt (Nat.lt_of_lt_of_le (by have := World.block_lt_of_cell? _ _ hw19001_0; first | rwa [add_block] at this | exact this) GW19011.out))) _).trans (((cell_far (p := ⟨gb19011, _, none⟩) (by first | exact Nat.ne_of_lt (Nat.lt_of_lt_of_le (by have := World.block_lt_of_cell? _ _ hw19001_0; first | rwa [add_block] at this | exact this) GW19011.out) | (rw [add_block]; exact Nat.ne_of_lt (Nat.lt_of_lt_of_le (by have := World.block_lt_of_cell? _ _ hw19001_0; first | rwa [add_block] at this | exact this) GW19011.out)) | (show (Addr.add _ _).block ≠ _; rw [add_block]; exact Nat.ne_of_lt (Nat.lt_of_lt_of_le (by have := World.block_lt_of_cell? _ _ hw19001_0; first | rwa [add_block] at this | exact this) GW19011.out)) | (dsimp only; exact Nat.ne_of_lt (Nat.lt_of_lt_of_le (by have := World.block_lt_of_cell? _ _ hw19001_0; first | rwa [add_block] at this | exact this) GW19011.out))) _).trans (((cell_far (p := ⟨gb19011, _, none⟩) (by first | exact Nat.ne_of_lt (Nat.lt_of_lt_of_le (by have := World.block_lt_of_cell? _ _ hw19001_0; first | rwa [add_block] at this | exact this) GW19011.out) | (rw [add_block]; exact Nat.ne_of_lt (Nat.lt_of_lt_of_le (by have := World.block_lt_of_cell? _ _ hw19001_0; first | rwa [add_block] at this | exact this) GW19011.out)) | (show (Addr.add _ _).block ≠ _; rw [add_block]; exact Nat.ne_of_lt (Nat.lt_of_lt_of_le (by have := World.block_lt_of_cell? _ _ hw19001_0; first | rwa [add_block] at this | exact this) GW19011.out)) | (dsimp only; exact Nat.ne_of_lt (Nat.lt_of_lt_of_le (by have := World.block_lt_of_cell? _ _ hw19001_0; first | rwa [add_block] at this | exact this) GW19011.out))) _).trans (((cell_far (p := ⟨gb19011, _, none⟩) (by first | exact Nat.ne_of_lt (Nat.lt_of_lt_of_le (by have := World.block_lt_of_cell? _ _ hw19001_0; first | rwa [add_block] at this | exact this) GW19011.out) | (rw [add_block]; exact Nat.ne_of_lt (Nat.lt_of_lt_of_le (by have := World.block_lt_of_cell? _ _ hw19001_0; first | rwa [add_block] at this | exact this) GW19011.out)) | (show (Addr.add _ _).block ≠ _; rw [add_block]; exact Nat.ne_of_lt (Nat.lt_of_lt_of_le (by have := World.block_lt_of_cell? _ _ hw19001_0; first | rwa [add_block] at this | exact this) GW19011.out)) | (dsimp only; exact Nat.ne_of_lt (Nat.lt_of_lt_of_le (by have := World.block_lt_of_cell? _ _ hw19001_0; first | rwa [add_block] at this | exact this) GW19011.out))) _).trans (hHeld.1)))))))))), ((cell_far (p := ⟨gb19011, _, none⟩) (by first | exact Nat.ne_of_lt (Nat.lt_of_lt_of_le (by have := World.block_lt_of_cell? _ _ hw19001_1; first | rwa [add_block] at this | exact this) GW19011.out) | (rw [add_block]; exact Nat.ne_of_lt (Nat.lt_of_lt_of_le (by have := World.block_lt_of_cell? _ _ hw19001_1; first | rwa [add_block] at this | exact this) GW19011.out)) | (show (Addr.add _ _).block ≠ _; rw [add_block]; exact Nat.ne_of_lt (Nat.lt_of_lt_of_le (by have := World.block_lt_of_cell? _ _ hw19001_1; first | rwa [add_block] at this | exact this) GW19011.out)) | (dsimp only; exact Nat.ne_of_lt (Nat.lt_of_lt_of_le (by have := World.block_lt_of_cell? _ _ hw19001_1; first | rwa [add_block] at this | exact this) GW19011.out))) _).trans (((cell_far (p := ⟨gb19011, _, none⟩) (by first | exact Nat.ne_of_lt (Nat.lt_of_lt_of_le (by have := World.block_lt_of_cell? _ _ hw19001_1; first | rwa [add_block] at this | exact this) GW19011.out) | (rw [add_block]; exact Nat.ne_of_lt (Nat.lt_of_lt_of_le (by have := World.block_lt_of_cell? _ _ hw19001_1; first | rwa [add_block] at this | exact this) GW19011.out)) | (show (Addr.add _ _).block ≠ _; rw [add_block]; exact Nat.ne_of_lt (Nat.lt_of_lt_of_le (by have := World.block_lt_of_cell? _ _ hw19001_1; first | rwa [add_block] at this | exact this) GW19011.out)) | (dsimp only; exact Nat.ne_of_lt (Nat.lt_of_lt_of_le (by have := World.block_lt_of_cell? _ _ hw19001_1; first | rwa [add_block] at this | exact this) GW19011.out))) _).trans (((cell_far (p := ⟨gb19011, _, none⟩) (by first | exact Nat.ne_of_lt (Nat.lt_of_lt_of_le (by have := World.block_lt_of_cell? _ _ hw19001_1; first | rwa [add_block] at this | exact this) GW19011.out) | (rw [add_block]; exact Nat.ne_of_lt (Nat.lt_of_lt_of_le (by have := World.block_lt_of_cell? _ _ hw19001_1; first | rwa [add_block] at this | exact this) GW19011.out)) | (show (Addr.add _ _).block ≠ _; rw [add_block]; exact Nat.ne_of_lt (Nat.lt_of_lt_of_le (by have := World.block_lt_of_cell? _ _ hw19001_1; first | rwa [add_block] at this | exact this) GW19011.out)) | (dsimp only; exact Nat.ne_of_lt (Nat.lt_of_lt_of_le (by have := World.block_lt_of_cell? _ _ hw19001_1; first | rwa [add_block] at this | exact this) GW19011.out))) _).trans (((cell_far (p := ⟨gb19011, _, none⟩) (by first | exact Nat.ne_of_lt (Nat.lt_of_lt_of_le (by have := World.block_lt_of_cell? _ _ hw19001_1; first | rwa [add_block] at this | exact this) GW19011.out) | (rw [add_block]; exact Nat.ne_of_lt (Nat.lt_of_lt_of_le (by have := World.block_lt_of_cell? _ _ hw19001_1; first | rwa [add_block] at this | exact this) GW19011.out)) | (show (Addr.add _ _).block ≠ _; rw [add_block]; exact Nat.ne_of_lt (Nat.lt_of_lt_of_le (by have := World.block_lt_of_cell? _ _ hw19001_1; first | rwa [add_block] at this | exact this) GW19011.out)) | (dsimp only; exact Nat.ne_of_lt (Nat.lt_of_lt_of_le (by have := World.block_lt_of_cell? _ _ hw19001_1; first | rwa [add_block] at this | exact this) GW19011.out))) _).trans (((cell_far (p := ⟨gb19011, _, none⟩) (by first | exact Nat.ne_of_lt (Nat.lt_of_lt_of_le (by have := World.block_lt_of_cell? _ _ hw19001_1; first | rwa [add_block] at this | exact this) GW19011.out) | (rw [add_block]; exact Nat.ne_of_lt (Nat.lt_of_lt_of_le (by have := World.block_lt_of_cell? _ _ hw19001_1; first | rwa [add_block] at this | exact this) GW19011.out)) | (show (Addr.add _ _).block ≠ _; rw [add_block]; exact Nat.ne_of_lt (Nat.lt_of_lt_of_le (by have := World.block_lt_of_cell? _ _ hw19001_1; first | rwa [add_block] at this | exact this) GW19011.out)) | (dsimp only; exact Nat.ne_of_lt (Nat.lt_of_lt_of_le (by have := World.block_lt_of_cell? _ _ hw19001_1; first | rwa [add_block] at this | exact this) GW19011.out))) _).trans (hHeld.2.1)))))))))), ((cell_far (p := ⟨gb19011, _, none⟩) (by first | exact Nat.ne_of_lt (Nat.lt_of_lt_of_le (by have := World.block_lt_of_cell? _ _ hw19001_2; first | rwa [add_block] at this | exact this) GW19011.out) | (rw [add_block]; exact Nat.ne_of_lt (Nat.lt_of_lt_of_le (by have := World.block_lt_of_cell? _ _ hw19001_2; first | rwa [add_block] at this | exact this) GW19011.out)) | (show (Addr.add _ _).block ≠ _; rw [add_block]; exact Nat.ne_of_lt (Nat.lt_of_lt_of_le (by have := World.block_lt_of_cell? _ _ hw19001_2; first | rwa [add_block] at this | exact this) GW19011.out)) | (dsimp only; exact Nat.ne_of_lt (Nat.lt_of_lt_of_le (by have := World.block_lt_of_cell? _ _ hw19001_2; first | rwa [add_block] at this | exact this) GW19011.out))) _).trans (((cell_far (p := ⟨gb19011, _, none⟩) (by first | exact Nat.ne_of_lt (Nat.lt_of_lt_of_le (by have := World.block_lt_of_cell? _ _ hw19001_2; first | rwa [add_block] at this | exact this) GW19011.out) | (rw [add_block]; exact Nat.ne_of_lt (Nat.lt_of_lt_of_le (by have := World.block_lt_of_cell? _ _ hw19001_2; first | rwa [add_block] at this | exact this) GW19011.out)) | (show (Addr.add _ _).block ≠ _; rw [add_block]; exact Nat.ne_of_lt (Nat.lt_of_lt_of_le (by have := World.block_lt_of_cell? _ _ hw19001_2; first | rwa [add_block] at this | exact this) GW19011.out)) | (dsimp only; exact Nat.ne_of_lt (Nat.lt_of_lt_of_le (by have := World.block_lt_of_cell? _ _ hw19001_2; first | rwa [add_block] at this | exact this) GW19011.out))) _).trans (((cell_far (p := ⟨gb19011, _, none⟩) (by first | exact Nat.ne_of_lt (Nat.lt_of_lt_of_le (by have := World.block_lt_of_cell? _ _ hw19001_2; first | rwa [add_block] at this | exact this) GW19011.out) | (rw [add_block]; exact Nat.ne_of_lt (Nat.lt_of_lt_of_le (by have := World.block_lt_of_cell? _ _ hw19001_2; first | rwa [add_block] at this | exact this) GW19011.out)) | (show (Addr.add _ _).block ≠ _; rw [add_block]; exact Nat.ne_of_lt (Nat.lt_of_lt_of_le (by have := World.block_lt_of_cell? _ _ hw19001_2; first | rwa [add_block] at this | exact this) GW19011.out)) | (dsimp only; exact Nat.ne_of_lt (Nat.lt_of_lt_of_le (by have := World.block_lt_of_cell? _ _ hw19001_2; first | rwa [add_block] at this | exact this) GW19011.out))) _).trans (((cell_far (p := ⟨gb19011, _, none⟩) (by first | exact Nat.ne_of_lt (Nat.lt_of_lt_of_le (by have := World.block_lt_of_cell? _ _ hw19001_2; first | rwa [add_block] at this | exact this) GW19011.out) | (rw [add_block]; exact Nat.ne_of_lt (Nat.lt_of_lt_of_le (by have := World.block_lt_of_cell? _ _ hw19001_2; first | rwa [add_block] at this | exact this) GW19011.out)) | (show (Addr.add _ _).block ≠ _; rw [add_block]; exact Nat.ne_of_lt (Nat.lt_of_lt_of_le (by have := World.block_lt_of_cell? _ _ hw19001_2; first | rwa [add_block] at this | exact this) GW19011.out)) | (dsimp only; exact Nat.ne_of_lt (Nat.lt_of_lt_of_le (by have := World.block_lt_of_cell? _ _ hw19001_2; first | rwa [add_block] at this | exact this) GW19011.out))) _).trans (((cell_far (p := ⟨gb19011, _, none⟩) (by first | exact Nat.ne_of_lt (Nat.lt_of_lt_of_le (by have := World.block_lt_of_cell? _ _ hw19001_2; first | rwa [add_block] at this | exact this) GW19011.out) | (rw [add_block]; exact Nat.ne_of_lt (Nat.lt_of_lt_of_le (by have := World.block_lt_of_cell? _ _ hw19001_2; first | rwa [add_block] at this | exact this) GW19011.out)) | (show (Addr.add _ _).block ≠ _; rw [add_block]; exact Nat.ne_of_lt (Nat.lt_of_lt_of_le (by have := World.block_lt_of_cell? _ _ hw19001_2; first | rwa [add_block] at this | exact this) GW19011.out)) | (dsimp only; exact Nat.ne_of_lt (Nat.lt_of_lt_of_le (by have := World.block_lt_of_cell? _ _ hw19001_2; first | rwa [add_block] at this | exact this) GW19011.out))) _).trans (hHeld.2.2.1)))))))))), ((cell_far (p := ⟨gb19011, _, none⟩) (by first | exact Nat.ne_of_lt (Nat.lt_of_lt_of_le (by have := World.block_lt_of_cell? _ _ hw19001_3; first | rwa [add_block] at this | exact this) GW19011.out) | (rw [add_block]; exact Nat.ne_of_lt (Nat.lt_of_lt_of_le (by have := World.block_lt_of_cell? _ _ hw19001_3; first | rwa [add_block] at this | exact this) GW19011.out)) | (show (Addr.add _ _).block ≠ _; rw [add_block]; exact Nat.ne_of_lt (Nat.lt_of_lt_of_le (by have := World.block_lt_of_cell? _ _ hw19001_3; first | rwa [add_block] at this | exact this) GW19011.out)) | (dsimp only; exact Nat.ne_of_lt (Nat.lt_of_lt_of_le (by have := World.block_lt_of_cell? _ _ hw19001_3; first | rwa [add_block] at this | exact this) GW19011.out))) _).trans (((cell_far (p := ⟨gb19011, _, none⟩) (by first | exact Nat.ne_of_lt (Nat.lt_of_lt_of_le (by have := World.block_lt_of_cell? _ _ hw19001_3; first | rwa [add_block] at this | exact this) GW19011.out) | (rw [add_block]; exact Nat.ne_of_lt (Nat.lt_of_lt_of_le (by have := World.block_lt_of_cell? _ _ hw19001_3; first | rwa [add_block] at this | exact this) GW19011.out)) | (show (Addr.add _ _).block ≠ _; rw [add_block]; exact Nat.ne_of_lt (Nat.lt_of_lt_of_le (by have := World.block_lt_of_cell? _ _ hw19001_3; first | rwa [add_block] at this | exact this) GW19011.out)) | (dsimp only; exact Nat.ne_of_lt (Nat.lt_of_lt_of_le (by have := World.block_lt_of_cell? _ _ hw19001_3; first | rwa [add_block] at this | exact this) GW19011.out))) _).trans (((cell_far (p := ⟨gb19011, _, none⟩) (by first | exact Nat.ne_of_lt (Nat.lt_of_lt_of_le (by have := World.block_lt_of_cell? _ _ hw19001_3; first | rwa [add_block] at this | exact this) GW19011.out) | (rw [add_block]; exact Nat.ne_of_lt (Nat.lt_of_lt_of_le (by have := World.block_lt_of_cell? _ _ hw19001_3; first | rwa [add_block] at this | exact this) GW19011.out)) | (show (Addr.add _ _).block ≠ _; rw [add_block]; exact Nat.ne_of_lt (Nat.lt_of_lt_of_le (by have := World.block_lt_of_cell? _ _ hw19001_3; first | rwa [add_block] at this | exact this) GW19011.out)) | (dsimp only; exact Nat.ne_of_lt (Nat.lt_of_lt_of_le (by have := World.block_lt_of_cell? _ _ hw19001_3; first | rwa [add_block] at this | exact this) GW19011.out))) _).trans (((cell_far (p := ⟨gb19011, _, none⟩) (by first | exact Nat.ne_of_lt (Nat.lt_of_lt_of_le (by have := World.block_lt_of_cell? _ _ hw19001_3; first | rwa [add_block] at this | exact this) GW19011.out) | (rw [add_block]; exact Nat.ne_of_lt (Nat.lt_of_lt_of_le (by have := World.block_lt_of_cell? _ _ hw19001_3; first | rwa [add_block] at this | exact this) GW19011.out)) | (show (Addr.add _ _).block ≠ _; rw [add_block]; exact Nat.ne_of_lt (Nat.lt_of_lt_of_le (by have := World.block_lt_of_cell? _ _ hw19001_3; first | rwa [add_block] at this | exact this) GW19011.out)) | (dsimp only; exact Nat.ne_of_lt (Nat.lt_of_lt_of_le (by have := World.block_lt_of_cell? _ _ hw19001_3; first | rwa [add_block] at this | exact this) GW19011.out))) _).trans (((cell_far (p := ⟨gb19011, _, none⟩) (by first | exact Nat.ne_of_lt (Nat.lt_of_lt_of_le (by have := World.block_lt_of_cell? _ _ hw19001_3; first | rwa [add_block] at this | exact this) GW19011.out) | (rw [add_block]; exact Nat.ne_of_lt (Nat.lt_of_lt_of_le (by have := World.block_lt_of_cell? _ _ hw19001_3; first | rwa [add_block] at this | exact this) GW19011.out)) | (show (Addr.add _ _).block ≠ _; rw [add_block]; exact Nat.ne_of_lt (Nat.lt_of_lt_of_le (by have := World.block_lt_of_cell? _ _ hw19001_3; first | rwa [add_block] at this | exact this) GW19011.out)) | (dsimp only; exact Nat.ne_of_lt (Nat.lt_of_lt_of_le (by have := World.block_lt_of_cell? _ _ hw19001_3; first | rwa [add_block] at this | exact this) GW19011.out))) _).trans (hHeld.2.2.2.1)))))))))), ((cell_far (p := ⟨gb19011, _, none⟩) (by first | exact Nat.ne_of_lt (Nat.lt_of_lt_of_le (by have := World.block_lt_of_cell? _ _ hw19001_4; first | rwa [add_block] at this | exact this) GW19011.out) | (rw [add_block]; exact Nat.ne_of_lt (Nat.lt_of_lt_of_le (by have := World.block_lt_of_cell? _ _ hw19001_4; first | rwa [add_block] at this | exact this) GW19011.out)) | (show (Addr.add _ _).block ≠ _; rw [add_block]; exact Nat.ne_of_lt (Nat.lt_of_lt_of_le (by have := World.block_lt_of_cell? _ _ hw19001_4; first | rwa [add_block] at this | exact this) GW19011.out)) | (dsimp only; exact Nat.ne_of_lt (Nat.lt_of_lt_of_le (by have := World.block_lt_of_cell? _ _ hw19001_4; first | rwa [add_block] at this | exact this) GW19011.out))) _).trans (((cell_far (p := ⟨gb19011, _, none⟩) (by first | exact Nat.ne_of_lt (Nat.lt_of_lt_of_le (by have := World.block_lt_of_cell? _ _ hw19001_4; first | rwa [add_block] at this | exact this) GW19011.out) | (rw [add_block]; exact Nat.ne_of_lt (Nat.lt_of_lt_of_le (by have := World.block_lt_of_cell? _ _ hw19001_4; first | rwa [add_block] at this | exact this) GW19011.out)) | (show (Addr.add _ _).block ≠ _; rw [add_block]; exact Nat.ne_of_lt (Nat.lt_of_lt_of_le (by have := World.block_lt_of_cell? _ _ hw19001_4; first | rwa [add_block] at this | exact this) GW19011.out)) | (dsimp only; exact Nat.ne_of_lt (Nat.lt_of_lt_of_le (by have := World.block_lt_of_cell? _ _ hw19001_4; first | rwa [add_block] at this | exact this) GW19011.out))) _).trans (((cell_far (p := ⟨gb19011, _, none⟩) (by first | exact Nat.ne_of_lt (Nat.lt_of_lt_of_le (by have := World.block_lt_of_cell? _ _ hw19001_4; first | rwa [add_block] at this | exact this) GW19011.out) | (rw [add_block]; exact Nat.ne_of_lt (Nat.lt_of_lt_of_le (by have := World.block_lt_of_cell? _ _ hw19001_4; first | rwa [add_block] at this | exact this) GW19011.out)) | (show (Addr.add _ _).block ≠ _; rw [add_block]; exact Nat.ne_of_lt (Nat.lt_of_lt_of_le (by have := World.block_lt_of_cell? _ _ hw19001_4; first | rwa [add_block] at this | exact this) GW19011.out)) | (dsimp only; exact Nat.ne_of_lt (Nat.lt_of_lt_of_le (by have := World.block_lt_of_cell? _ _ hw19001_4; first | rwa [add_block] at this | exact this) GW19011.out))) _).trans (((cell_far (p := ⟨gb19011, _, none⟩) (by first | exact Nat.ne_of_lt (Nat.lt_of_lt_of_le (by have := World.block_lt_of_cell? _ _ hw19001_4; first | rwa [add_block] at this | exact this) GW19011.out) | (rw [add_block]; exact Nat.ne_of_lt (Nat.lt_of_lt_of_le (by have := World.block_lt_of_cell? _ _ hw19001_4; first | rwa [add_block] at this | exact this) GW19011.out)) | (show (Addr.add _ _).block ≠ _; rw [add_block]; exact Nat.ne_of_lt (Nat.lt_of_lt_of_le (by have := World.block_lt_of_cell? _ _ hw19001_4; first | rwa [add_block] at this | exact this) GW19011.out)) | (dsimp only; exact Nat.ne_of_lt (Nat.lt_of_lt_of_le (by have := World.block_lt_of_cell? _ _ hw19001_4; first | rwa [add_block] at this | exact this) GW19011.out))) _).trans (((cell_far (p := ⟨gb19011, _, none⟩) (by first | exact Nat.ne_of_lt (Nat.lt_of_lt_of_le (by have := World.block_lt_of_cell? _ _ hw19001_4; first | rwa [add_block] at this | exact this) GW19011.out) | (rw [add_block]; exact Nat.ne_of_lt (Nat.lt_of_lt_of_le (by have := World.block_lt_of_cell? _ _ hw19001_4; first | rwa [add_block] at this | exact this) GW19011.out)) | (show (Addr.add _ _).block ≠ _; rw [add_block]; exact Nat.ne_of_lt (Nat.lt_of_lt_of_le (by have := World.block_lt_of_cell? _ _ hw19001_4; first | rwa [add_block] at this | exact this) GW19011.out)) | (dsimp only; exact Nat.ne_of_lt (Nat.lt_of_lt_of_le (by have := World.block_lt_of_cell? _ _ hw19001_4; first | rwa [add_block] at this | exact this) GW19011.out))) _).trans (hHeld.2.2.2.2.1)))))))))), ((cell_far (p := ⟨gb19011, _, none⟩) (by first | exact Nat.ne_of_lt (Nat.lt_of_lt_of_le (by have := World.block_lt_of_cell? _ _ hw19002_0; first | rwa [add_block] at this | exact this) GW19011.out) | (rw [add_block]; exact Nat.ne_of_lt (Nat.lt_of_lt_of_le (by have := World.block_lt_of_cell? _ _ hw19002_0; first | rwa [add_block] at this | exact this) GW19011.out)) | (show (Addr.add _ _).block ≠ _; rw [add_block]; exact Nat.ne_of_lt (Nat.lt_of_lt_of_le (by have := World.block_lt_of_cell? _ _ hw19002_0; first | rwa [add_block] at this | exact this) GW19011.out)) | (dsimp only; exact Nat.ne_of_lt (Nat.lt_of_lt_of_le (by have := World.block_lt_of_cell? _ _ hw19002_0; first | rwa [add_block] at this | exact this) GW19011.out))) _).trans (((cell_far (p := ⟨gb19011, _, none⟩) (by first | exact Nat.ne_of_lt (Nat.lt_of_lt_of_le (by have := World.block_lt_of_cell? _ _ hw19002_0; first | rwa [add_block] at this | exact this) GW19011.out) | (rw [add_block]; exact Nat.ne_of_lt (Nat.lt_of_lt_of_le (by have := World.block_lt_of_cell? _ _ hw19002_0; first | rwa [add_block] at this | exact this) GW19011.out)) | (show (Addr.add _ _).block ≠ _; rw [add_block]; exact Nat.ne_of_lt (Nat.lt_of_lt_of_le (by have := World.block_lt_of_cell? _ _ hw19002_0; first | rwa [add_block] at this | exact this) GW19011.out)) | (dsimp only; exact Nat.ne_of_lt (Nat.lt_of_lt_of_le (by have := World.block_lt_of_cell? _ _ hw19002_0; first | rwa [add_block] at this | exact this) GW19011.out))) _).trans (((cell_far (p := ⟨gb19011, _, none⟩) (by first | exact Nat.ne_of_lt (Nat.lt_of_lt_of_le (by have := World.block_lt_of_cell? _ _ hw19002_0; first | rwa [add_block] at this | exact this) GW19011.out) | (rw [add_block]; exact Nat.ne_of_lt (Nat.lt_of_lt_of_le (by have := World.block_lt_of_cell? _ _ hw19002_0; first | rwa [add_block] at this | exact this) GW19011.out)) | (show (Addr.add _ _).block ≠ _; rw [add_block]; exact Nat.ne_of_lt (Nat.lt_of_lt_of_le (by have := World.block_lt_of_cell? _ _ hw19002_0; first | rwa [add_block] at this | exact this) GW19011.out)) | (dsimp only; exact Nat.ne_of_lt (Nat.lt_of_lt_of_le (by have := World.block_lt_of_cell? _ _ hw19002_0; first | rwa [add_block] at this | exact this) GW19011.out))) _).trans (((cell_far (p := ⟨gb19011, _, none⟩) (by first | exact Nat.ne_of_lt (Nat.lt_of_lt_of_le (by have := World.block_lt_of_cell? _ _ hw19002_0; first | rwa [add_block] at this | exact this) GW19011.out) | (rw [add_block]; exact Nat.ne_of_lt (Nat.lt_of_lt_of_le (by have := World.block_lt_of_cell? _ _ hw19002_0; first | rwa [add_block] at this | exact this) GW19011.out)) | (show (Addr.add _ _).block ≠ _; rw [add_block]; exact Nat.ne_of_lt (Nat.lt_of_lt_of_le (by have := World.block_lt_of_cell? _ _ hw19002_0; first | rwa [add_block] at this | exact this) GW19011.out)) | (dsimp only; exact Nat.ne_of_lt (Nat.lt_of_lt_of_le (by have := World.block_lt_of_cell? _ _ hw19002_0; first | rwa [add_block] at this | exact this) GW19011.out))) _).trans (((cell_far (p := ⟨gb19011, _, none⟩) (by first | exact Nat.ne_of_lt (Nat.lt_of_lt_of_le (by have := World.block_lt_of_cell? _ _ hw19002_0; first | rwa [add_block] at this | exact this) GW19011.out) | (rw [add_block]; exact Nat.ne_of_lt (Nat.lt_of_lt_of_le (by have := World.block_lt_of_cell? _ _ hw19002_0; first | rwa [add_block] at this | exact this) GW19011.out)) | (show (Addr.add _ _).block ≠ _; rw [add_block]; exact Nat.ne_of_lt (Nat.lt_of_lt_of_le (by have := World.block_lt_of_cell? _ _ hw19002_0; first | rwa [add_block] at this | exact this) GW19011.out)) | (dsimp only; exact Nat.ne_of_lt (Nat.lt_of_lt_of_le (by have := World.block_lt_of_cell? _ _ hw19002_0; first | rwa [add_block] at this | exact this) GW19011.out))) _).trans (hHeld.2.2.2.2.2.1)))))))))), ((cell_far (p := ⟨gb19011, _, none⟩) (by first | exact Nat.ne_of_lt (Nat.lt_of_lt_of_le (by have := World.block_lt_of_cell? _ _ hw19002_1; first | rwa [add_block] at this | exact this) GW19011.out) | (rw [add_block]; exact Nat.ne_of_lt (Nat.lt_of_lt_of_le (by have := World.block_lt_of_cell? _ _ hw19002_1; first | rwa [add_block] at this | exact this) GW19011.out)) | (show (Addr.add _ _).block ≠ _; rw [add_block]; exact Nat.ne_of_lt (Nat.lt_of_lt_of_le (by have := World.block_lt_of_cell? _ _ hw19002_1; first | rwa [add_block] at this | exact this) GW19011.out)) | (dsimp only; exact Nat.ne_of_lt (Nat.lt_of_lt_of_le (by have := World.block_lt_of_cell? _ _ hw19002_1; first | rwa [add_block] at this | exact this) GW19011.out))) _).trans (((cell_far (p := ⟨gb19011, _, none⟩) (by first | exact Nat.ne_of_lt (Nat.lt_of_lt_of_le (by have := World.block_lt_of_cell? _ _ hw19002_1; first | rwa [add_block] at this | exact this) GW19011.out) | (rw [add_block]; exact Nat.ne_of_lt (Nat.lt_of_lt_of_le (by have := World.block_lt_of_cell? _ _ hw19002_1; first | rwa [add_block] at this | exact this) GW19011.out)) | (show (Addr.add _ _).block ≠ _; rw [add_block]; exact Nat.ne_of_lt (Nat.lt_of_lt_of_le (by have := World.block_lt_of_cell? _ _ hw19002_1; first | rwa [add_block] at this | exact this) GW19011.out)) | (dsimp only; exact Nat.ne_of_lt (Nat.lt_of_lt_of_le (by have := World.block_lt_of_cell? _ _ hw19002_1; first | rwa [add_block] at this | exact this) GW19011.out))) _).trans (((cell_far (p := ⟨gb19011, _, none⟩) (by first | exact Nat.ne_of_lt (Nat.lt_of_lt_of_le (by have := World.block_lt_of_cell? _ _ hw19002_1; first | rwa [add_block] at this | exact this) GW19011.out) | (rw [add_block]; exact Nat.ne_of_lt (Nat.lt_of_lt_of_le (by have := World.block_lt_of_cell? _ _ hw19002_1; first | rwa [add_block] at this | exact this) GW19011.out)) | (show (Addr.add _ _).block ≠ _; rw [add_block]; exact Nat.ne_of_lt (Nat.lt_of_lt_of_le (by have := World.block_lt_of_cell? _ _ hw19002_1; first | rwa [add_block] at this | exact this) GW19011.out)) | (dsimp only; exact Nat.ne_of_lt (Nat.lt_of_lt_of_le (by have := World.block_lt_of_cell? _ _ hw19002_1; first | rwa [add_block] at this | exact this) GW19011.out))) _).trans (((cell_far (p := ⟨gb19011, _, none⟩) (by first | exact Nat.ne_of_lt (Nat.lt_of_lt_of_le (by have := World.block_lt_of_cell? _ _ hw19002_1; first | rwa [add_block] at this | exact this) GW19011.out) | (rw [add_block]; exact Nat.ne_of_lt (Nat.lt_of_lt_of_le (by have := World.block_lt_of_cell? _ _ hw19002_1; first | rwa [add_block] at this | exact this) GW19011.out)) | (show (Addr.add _ _).block ≠ _; rw [add_block]; exact Nat.ne_of_lt (Nat.lt_of_lt_of_le (by have := World.block_lt_of_cell? _ _ hw19002_1; first | rwa [add_block] at this | exact this) GW19011.out)) | (dsimp only; exact Nat.ne_of_lt (Nat.lt_of_lt_of_le (by have := World.block_lt_of_cell? _ _ hw19002_1; first | rwa [add_block] at this | exact this) GW19011.out))) _).trans (((cell_far (p := ⟨gb19011, _, none⟩) (by first | exact Nat.ne_of_lt (Nat.lt_of_lt_of_le (by have := World.block_lt_of_cell? _ _ hw19002_1; first | rwa [add_block] at this | exact this) GW19011.out) | (rw [add_block]; exact Nat.ne_of_lt (Nat.lt_of_lt_of_le (by have := World.block_lt_of_cell? _ _ hw19002_1; first | rwa [add_block] at this | exact this) GW19011.out)) | (show (Addr.add _ _).block ≠ _; rw [add_block]; exact Nat.ne_of_lt (Nat.lt_of_lt_of_le (by have := World.block_lt_of_cell? _ _ hw19002_1; first | rwa [add_block] at this | exact this) GW19011.out)) | (dsimp only; exact Nat.ne_of_lt (Nat.lt_of_lt_of_le (by have := World.block_lt_of_cell? _ _ hw19002_1; first | rwa [add_block] at this | exact this) GW19011.out))) _).trans (hHeld.2.2.2.2.2.2.1)))))))))), ((cell_far (p := ⟨gb19011, _, none⟩) (by first | exact Nat.ne_of_lt (Nat.lt_of_lt_of_le (by have := World.block_lt_of_cell? _ _ hw19002_2; first | rwa [add_block] at this | exact this) GW19011.out) | (rw [add_block]; exact Nat.ne_of_lt (Nat.lt_of_lt_of_le (by have := World.block_lt_of_cell? _ _ hw19002_2; first | rwa [add_block] at this | exact this) GW19011.out)) | (show (Addr.add _ _).block ≠ _; rw [add_block]; exact Nat.ne_of_lt (Nat.lt_of_lt_of_le (by have := World.block_lt_of_cell? _ _ hw19002_2; first | rwa [add_block] at this | exact this) GW19011.out)) | (dsimp only; exact Nat.ne_of_lt (Nat.lt_of_lt_of_le (by have := World.block_lt_of_cell? _ _ hw19002_2; first | rwa [add_block] at this | exact this) GW19011.out))) _).trans (((cell_far (p := ⟨gb19011, _, none⟩) (by first | exact Nat.ne_of_lt (Nat.lt_of_lt_of_le (by have := World.block_lt_of_cell? _ _ hw19002_2; first | rwa [add_block] at this | exact this) GW19011.out) | (rw [add_block]; exact Nat.ne_of_lt (Nat.lt_of_lt_of_le (by have := World.block_lt_of_cell? _ _ hw19002_2; first | rwa [add_block] at this | exact this) GW19011.out)) | (show (Addr.add _ _).block ≠ _; rw [add_block]; exact Nat.ne_of_lt (Nat.lt_of_lt_of_le (by have := World.block_lt_of_cell? _ _ hw19002_2; first | rwa [add_block] at this | exact this) GW19011.out)) | (dsimp only; exact Nat.ne_of_lt (Nat.lt_of_lt_of_le (by have := World.block_lt_of_cell? _ _ hw19002_2; first | rwa [add_block] at this | exact this) GW19011.out))) _).trans (((cell_far (p := ⟨gb19011, _, none⟩) (by first | exact Nat.ne_of_lt (Nat.lt_of_lt_of_le (by have := World.block_lt_of_cell? _ _ hw19002_2; first | rwa [add_block] at this | exact this) GW19011.out) | (rw [add_block]; exact Nat.ne_of_lt (Nat.lt_of_lt_of_le (by have := World.block_lt_of_cell? _ _ hw19002_2; first | rwa [add_block] at this | exact this) GW19011.out)) | (show (Addr.add _ _).block ≠ _; rw [add_block]; exact Nat.ne_of_lt (Nat.lt_of_lt_of_le (by have := World.block_lt_of_cell? _ _ hw19002_2; first | rwa [add_block] at this | exact this) GW19011.out)) | (dsimp only; exact Nat.ne_of_lt (Nat.lt_of_lt_of_le (by have := World.block_lt_of_cell? _ _ hw19002_2; first | rwa [add_block] at this | exact this) GW19011.out))) _).trans (((cell_far (p := ⟨gb19011, _, none⟩) (by first | exact Nat.ne_of_lt (Nat.lt_of_lt_of_le (by have := World.block_lt_of_cell? _ _ hw19002_2; first | rwa [add_block] at this | exact this) GW19011.out) | (rw [add_block]; exact Nat.ne_of_lt (Nat.lt_of_lt_of_le (by have := World.block_lt_of_cell? _ _ hw19002_2; first | rwa [add_block] at this | exact this) GW19011.out)) | (show (Addr.add _ _).block ≠ _; rw [add_block]; exact Nat.ne_of_lt (Nat.lt_of_lt_of_le (by have := World.block_lt_of_cell? _ _ hw19002_2; first | rwa [add_block] at this | exact this) GW19011.out)) | (dsimp only; exact Nat.ne_of_lt (Nat.lt_of_lt_of_le (by have := World.block_lt_of_cell? _ _ hw19002_2; first | rwa [add_block] at this | exact this) GW19011.out))) _).trans (((cell_far (p := ⟨gb19011, _, none⟩) (by first | exact Nat.ne_of_lt (Nat.lt_of_lt_of_le (by have := World.block_lt_of_cell? _ _ hw19002_2; first | rwa [add_block] at this | exact this) GW19011.out) | (rw [add_block]; exact Nat.ne_of_lt (Nat.lt_of_lt_of_le (by have := World.block_lt_of_cell? _ _ hw19002_2; first | rwa [add_block] at this | exact this) GW19011.out)) | (show (Addr.add _ _).block ≠ _; rw [add_block]; exact Nat.ne_of_lt (Nat.lt_of_lt_of_le (by have := World.block_lt_of_cell? _ _ hw19002_2; first | rwa [add_block] at this | exact this) GW19011.out)) | (dsimp only; exact Nat.ne_of_lt (Nat.lt_of_lt_of_le (by have := World.block_lt_of_cell? _ _ hw19002_2; first | rwa [add_block] at this | exact this) GW19011.out))) _).trans (hHeld.2.2.2.2.2.2.2.1)))))))))), ((cell_far (p := ⟨gb19011, _, none⟩) (by first | exact Nat.ne_of_lt (Nat.lt_of_lt_of_le (by have := World.block_lt_of_cell? _ _ hw19002_3; first | rwa [add_block] at this | exact this) GW19011.out) | (rw [add_block]; exact Nat.ne_of_lt (Nat.lt_of_lt_of_le (by have := World.block_lt_of_cell? _ _ hw19002_3; first | rwa [add_block] at this | exact this) GW19011.out)) | (show (Addr.add _ _).block ≠ _; rw [add_block]; exact Nat.ne_of_lt (Nat.lt_of_lt_of_le (by have := World.block_lt_of_cell? _ _ hw19002_3; first | rwa [add_block] at this | exact this) GW19011.out)) | (dsimp only; exact Nat.ne_of_lt (Nat.lt_of_lt_of_le (by have := World.block_lt_of_cell? _ _ hw19002_3; first | rwa [add_block] at this | exact this) GW19011.out))) _).trans (((cell_far (p := ⟨gb19011, _, none⟩) (by first | exact Nat.ne_of_lt (Nat.lt_of_lt_of_le (by have := World.block_lt_of_cell? _ _ hw19002_3; first | rwa [add_block] at this | exact this) GW19011.out) | (rw [add_block]; exact Nat.ne_of_lt (Nat.lt_of_lt_of_le (by have := World.block_lt_of_cell? _ _ hw19002_3; first | rwa [add_block] at this | exact this) GW19011.out)) | (show (Addr.add _ _).block ≠ _; rw [add_block]; exact Nat.ne_of_lt (Nat.lt_of_lt_of_le (by have := World.block_lt_of_cell? _ _ hw19002_3; first | rwa [add_block] at this | exact this) GW19011.out)) | (dsimp only; exact Nat.ne_of_lt (Nat.lt_of_lt_of_le (by have := World.block_lt_of_cell? _ _ hw19002_3; first | rwa [add_block] at this | exact this) GW19011.out))) _).trans (((cell_far (p := ⟨gb19011, _, none⟩) (by first | exact Nat.ne_of_lt (Nat.lt_of_lt_of_le (by have := World.block_lt_of_cell? _ _ hw19002_3; first | rwa [add_block] at this | exact this) GW19011.out) | (rw [add_block]; exact Nat.ne_of_lt (Nat.lt_of_lt_of_le (by have := World.block_lt_of_cell? _ _ hw19002_3; first | rwa [add_block] at this | exact this) GW19011.out)) | (show (Addr.add _ _).block ≠ _; rw [add_block]; exact Nat.ne_of_lt (Nat.lt_of_lt_of_le (by have := World.block_lt_of_cell? _ _ hw19002_3; first | rwa [add_block] at this | exact this) GW19011.out)) | (dsimp only; exact Nat.ne_of_lt (Nat.lt_of_lt_of_le (by have := World.block_lt_of_cell? _ _ hw19002_3; first | rwa [add_block] at this | exact this) GW19011.out))) _).trans (((cell_far (p := ⟨gb19011, _, none⟩) (by first | exact Nat.ne_of_lt (Nat.lt_of_lt_of_le (by have := World.block_lt_of_cell? _ _ hw19002_3; first | rwa [add_block] at this | exact this) GW19011.out) | (rw [add_block]; exact Nat.ne_of_lt (Nat.lt_of_lt_of_le (by have := World.block_lt_of_cell? _ _ hw19002_3; first | rwa [add_block] at this | exact this) GW19011.out)) | (show (Addr.add _ _).block ≠ _; rw [add_block]; exact Nat.ne_of_lt (Nat.lt_of_lt_of_le (by have := World.block_lt_of_cell? _ _ hw19002_3; first | rwa [add_block] at this | exact this) GW19011.out)) | (dsimp only; exact Nat.ne_of_lt (Nat.lt_of_lt_of_le (by have := World.block_lt_of_cell? _ _ hw19002_3; first | rwa [add_block] at this | exact this) GW19011.out))) _).trans (((cell_far (p := ⟨gb19011, _, none⟩) (by first | exact Nat.ne_of_lt (Nat.lt_of_lt_of_le (by have := World.block_lt_of_cell? _ _ hw19002_3; first | rwa [add_block] at this | exact this) GW19011.out) | (rw [add_block]; exact Nat.ne_of_lt (Nat.lt_of_lt_of_le (by have := World.block_lt_of_cell? _ _ hw19002_3; first | rwa [add_block] at this | exact this) GW19011.out)) | (show (Addr.add _ _).block ≠ _; rw [add_block]; exact Nat.ne_of_lt (Nat.lt_of_lt_of_le (by have := World.block_lt_of_cell? _ _ hw19002_3; first | rwa [add_block] at this | exact this) GW19011.out)) | (dsimp only; exact Nat.ne_of_lt (Nat.lt_of_lt_of_le (by have := World.block_lt_of_cell? _ _ hw19002_3; first | rwa [add_block] at this | exact this) GW19011.out))) _).trans (hHeld.2.2.2.2.2.2.2.2.1)))))))))), ((cell_far (p := ⟨gb19011, _, none⟩) (by first | exact Nat.ne_of_lt (Nat.lt_of_lt_of_le (by have := World.block_lt_of_cell? _ _ hw19002_4; first | rwa [add_block] at this | exact this) GW19011.out) | (rw [add_block]; exact Nat.ne_of_lt (Nat.lt_of_lt_of_le (by have := World.block_lt_of_cell? _ _ hw19002_4; first | rwa [add_block] at this | exact this) GW19011.out)) | (show (Addr.add _ _).block ≠ _; rw [add_block]; exact Nat.ne_of_lt (Nat.lt_of_lt_of_le (by have := World.block_lt_of_cell? _ _ hw19002_4; first | rwa [add_block] at this | exact this) GW19011.out)) | (dsimp only; exact Nat.ne_of_lt (Nat.lt_of_lt_of_le (by have := World.block_lt_of_cell? _ _ hw19002_4; first | rwa [add_block] at this | exact this) GW19011.out))) _).trans (((cell_far (p := ⟨gb19011, _, none⟩) (by first | exact Nat.ne_of_lt (Nat.lt_of_lt_of_le (by have := World.block_lt_of_cell? _ _ hw19002_4; first | rwa [add_block] at this | exact this) GW19011.out) | (rw [add_block]; exact Nat.ne_of_lt (Nat.lt_of_lt_of_le (by have := World.block_lt_of_cell? _ _ hw19002_4; first | rwa [add_block] at this | exact this) GW19011.out)) | (show (Addr.add _ _).block ≠ _; rw [add_block]; exact Nat.ne_of_lt (Nat.lt_of_lt_of_le (by have := World.block_lt_of_cell? _ _ hw19002_4; first | rwa [add_block] at this | exact this) GW19011.out)) | (dsimp only; exact Nat.ne_of_lt (Nat.lt_of_lt_of_le (by have := World.block_lt_of_cell? _ _ hw19002_4; first | rwa [add_block] at this | exact this) GW19011.out))) _).trans (((cell_far (p := ⟨gb19011, _, none⟩) (by first | exact Nat.ne_of_lt (Nat.lt_of_lt_of_le (by have := World.block_lt_of_cell? _ _ hw19002_4; first | rwa [add_block] at this | exact this) GW19011.out) | (rw [add_block]; exact Nat.ne_of_lt (Nat.lt_of_lt_of_le (by have := World.block_lt_of_cell? _ _ hw19002_4; first | rwa [add_block] at this | exact this) GW19011.out)) | (show (Addr.add _ _).block ≠ _; rw [add_block]; exact Nat.ne_of_lt (Nat.lt_of_lt_of_le (by have := World.block_lt_of_cell? _ _ hw19002_4; first | rwa [add_block] at this | exact this) GW19011.out)) | (dsimp only; exact Nat.ne_of_lt (Nat.lt_of_lt_of_le (by have := World.block_lt_of_cell? _ _ hw19002_4; first | rwa [add_block] at this | exact this) GW19011.out))) _).trans (((cell_far (p := ⟨gb19011, _, none⟩) (by first | exact Nat.ne_of_lt (Nat.lt_of_lt_of_le (by have := World.block_lt_of_cell? _ _ hw19002_4; first | rwa [add_block] at this | exact this) GW19011.out) | (rw [add_block]; exact Nat.ne_of_lt (Nat.lt_of_lt_of_le (by have := World.block_lt_of_cell? _ _ hw19002_4; first | rwa [add_block] at this | exact this) GW19011.out)) | (show (Addr.add _ _).block ≠ _; rw [add_block]; exact Nat.ne_of_lt (Nat.lt_of_lt_of_le (by have := World.block_lt_of_cell? _ _ hw19002_4; first | rwa [add_block] at this | exact this) GW19011.out)) | (dsimp only; exact Nat.ne_of_lt (Nat.lt_of_lt_of_le (by have := World.block_lt_of_cell? _ _ hw19002_4; first | rwa [add_block] at this | exact this) GW19011.out))) _).trans (((cell_far (p := ⟨gb19011, _, none⟩) (by first | exact Nat.ne_of_lt (Nat.lt_of_lt_of_le (by have := World.block_lt_of_cell? _ _ hw19002_4; first | rwa [add_block] at this | exact this) GW19011.out) | (rw [add_block]; exact Nat.ne_of_lt (Nat.lt_of_lt_of_le (by have := World.block_lt_of_cell? _ _ hw19002_4; first | rwa [add_block] at this | exact this) GW19011.out)) | (show (Addr.add _ _).block ≠ _; rw [add_block]; exact Nat.ne_of_lt (Nat.lt_of_lt_of_le (by have := World.block_lt_of_cell? _ _ hw19002_4; first | rwa [add_block] at this | exact this) GW19011.out)) | (dsimp only; exact Nat.ne_of_lt (Nat.lt_of_lt_of_le (by have := World.block_lt_of_cell? _ _ hw19002_4; first | rwa [add_block] at this | exact this) GW19011.out))) _).trans (hHeld.2.2.2.2.2.2.2.2.2.1)))))))))), ((cell_far (p := ⟨gb19011, _, none⟩) (by first | exact Nat.ne_of_lt (Nat.lt_of_lt_of_le (by have := World.block_lt_of_cell? _ _ hw19003_0; first | rwa [add_block] at this | exact this) GW19011.out) | (rw [add_block]; exact Nat.ne_of_lt (Nat.lt_of_lt_of_le (by have := World.block_lt_of_cell? _ _ hw19003_0; first | rwa [add_block] at this | exact this) GW19011.out)) | (show (Addr.add _ _).block ≠ _; rw [add_block]; exact Nat.ne_of_lt (Nat.lt_of_lt_of_le (by have := World.block_lt_of_cell? _ _ hw19003_0; first | rwa [add_block] at this | exact this) GW19011.out)) | (dsimp only; exact Nat.ne_of_lt (Nat.lt_of_lt_of_le (by have := World.block_lt_of_cell? _ _ hw19003_0; first | rwa [add_block] at this | exact this) GW19011.out))) _).trans (((cell_far (p := ⟨gb19011, _, none⟩) (by first | exact Nat.ne_of_lt (Nat.lt_of_lt_of_le (by have := World.block_lt_of_cell? _ _ hw19003_0; first | rwa [add_block] at this | exact this) GW19011.out) | (rw [add_block]; exact Nat.ne_of_lt (Nat.lt_of_lt_of_le (by have := World.block_lt_of_cell? _ _ hw19003_0; first | rwa [add_block] at this | exact this) GW19011.out)) | (show (Addr.add _ _).block ≠ _; rw [add_block]; exact Nat.ne_of_lt (Nat.lt_of_lt_of_le (by have := World.block_lt_of_cell? _ _ hw19003_0; first | rwa [add_block] at this | exact this) GW19011.out)) | (dsimp only; exact Nat.ne_of_lt (Nat.lt_of_lt_of_le (by have := World.block_lt_of_cell? _ _ hw19003_0; first | rwa [add_block] at this | exact this) GW19011.out))) _).trans (((cell_far (p := ⟨gb19011, _, none⟩) (by first | exact Nat.ne_of_lt (Nat.lt_of_lt_of_le (by have := World.block_lt_of_cell? _ _ hw19003_0; first | rwa [add_block] at this | exact this) GW19011.out) | (rw [add_block]; exact Nat.ne_of_lt (Nat.lt_of_lt_of_le (by have := World.block_lt_of_cell? _ _ hw19003_0; first | rwa [add_block] at this | exact this) GW19011.out)) | (show (Addr.add _ _).block ≠ _; rw [add_block]; exact Nat.ne_of_lt (Nat.lt_of_lt_of_le (by have := World.block_lt_of_cell? _ _ hw19003_0; first | rwa [add_block] at this | exact this) GW19011.out)) | (dsimp only; exact Nat.ne_of_lt (Nat.lt_of_lt_of_le (by have := World.block_lt_of_cell? _ _ hw19003_0; first | rwa [add_block] at this | exact this) GW19011.out))) _).trans (((cell_far (p := ⟨gb19011, _, none⟩) (by first | exact Nat.ne_of_lt (Nat.lt_of_lt_of_le (by have := World.block_lt_of_cell? _ _ hw19003_0; first | rwa [add_block] at this | exact this) GW19011.out) | (rw [add_block]; exact Nat.ne_of_lt (Nat.lt_of_lt_of_le (by have := World.block_lt_of_cell? _ _ hw19003_0; first | rwa [add_block] at this | exact this) GW19011.out)) | (show (Addr.add _ _).block ≠ _; rw [add_block]; exact Nat.ne_of_lt (Nat.lt_of_lt_of_le (by have := World.block_lt_of_cell? _ _ hw19003_0; first | rwa [add_block] at this | exact this) GW19011.out)) | (dsimp only; exact Nat.ne_of_lt (Nat.lt_of_lt_of_le (by have := World.block_lt_of_cell? _ _ hw19003_0; first | rwa [add_block] at this | exact this) GW19011.out))) _).trans (((cell_far (p := ⟨gb19011, _, none⟩) (by first | exact Nat.ne_of_lt (Nat.lt_of_lt_of_le (by have := World.block_lt_of_cell? _ _ hw19003_0; first | rwa [add_block] at this | exact this) GW19011.out) | (rw [add_block]; exact Nat.ne_of_lt (Nat.lt_of_lt_of_le (by have := World.block_lt_of_cell? _ _ hw19003_0; first | rwa [add_block] at this | exact this) GW19011.out)) | (show (Addr.add _ _).block ≠ _; rw [add_block]; exact Nat.ne_of_lt (Nat.lt_of_lt_of_le (by have := World.block_lt_of_cell? _ _ hw19003_0; first | rwa [add_block] at this | exact this) GW19011.out)) | (dsimp only; exact Nat.ne_of_lt (Nat.lt_of_lt_of_le (by have := World.block_lt_of_cell? _ _ hw19003_0; first | rwa [add_block] at this | exact this) GW19011.out))) _).trans (hHeld.2.2.2.2.2.2.2.2.2.2.1)))))))))), ((cell_far (p := ⟨gb19011, _, none⟩) (by first | exact Nat.ne_of_lt (Nat.lt_of_lt_of_le (by have := World.block_lt_of_cell? _ _ hw19003_1; first | rwa [add_block] at this | exact this) GW19011.out) | (rw [add_block]; exact Nat.ne_of_lt (Nat.lt_of_lt_of_le (by have := World.block_lt_of_cell? _ _ hw19003_1; first | rwa [add_block] at this | exact this) GW19011.out)) | (show (Addr.add _ _).block ≠ _; rw [add_block]; exact Nat.ne_of_lt (Nat.lt_of_lt_of_le (by have := World.block_lt_of_cell? _ _ hw19003_1; first | rwa [add_block] at this | exact this) GW19011.out)) | (dsimp only; exact Nat.ne_of_lt (Nat.lt_of_lt_of_le (by have := World.block_lt_of_cell? _ _ hw19003_1; first | rwa [add_block] at this | exact this) GW19011.out))) _).trans (((cell_far (p := ⟨gb19011, _, none⟩) (by first | exact Nat.ne_of_lt (Nat.lt_of_lt_of_le (by have := World.block_lt_of_cell? _ _ hw19003_1; first | rwa [add_block] at this | exact this) GW19011.out) | (rw [add_block]; exact Nat.ne_of_lt (Nat.lt_of_lt_of_le (by have := World.block_lt_of_cell? _ _ hw19003_1; first | rwa [add_block] at this | exact this) GW19011.out)) | (show (Addr.add _ _).block ≠ _; rw [add_block]; exact Nat.ne_of_lt (Nat.lt_of_lt_of_le (by have := World.block_lt_of_cell? _ _ hw19003_1; first | rwa [add_block] at this | exact this) GW19011.out)) | (dsimp only; exact Nat.ne_of_lt (Nat.lt_of_lt_of_le (by have := World.block_lt_of_cell? _ _ hw19003_1; first | rwa [add_block] at this | exact this) GW19011.out))) _).trans (((cell_far (p := ⟨gb19011, _, none⟩) (by first | exact Nat.ne_of_lt (Nat.lt_of_lt_of_le (by have := World.block_lt_of_cell? _ _ hw19003_1; first | rwa [add_block] at this | exact this) GW19011.out) | (rw [add_block]; exact Nat.ne_of_lt (Nat.lt_of_lt_of_le (by have := World.block_lt_of_cell? _ _ hw19003_1; first | rwa [add_block] at this | exact this) GW19011.out)) | (show (Addr.add _ _).block ≠ _; rw [add_block]; exact Nat.ne_of_lt (Nat.lt_of_lt_of_le (by have := World.block_lt_of_cell? _ _ hw19003_1; first | rwa [add_block] at this | exact this) GW19011.out)) | (dsimp only; exact Nat.ne_of_lt (Nat.lt_of_lt_of_le (by have := World.block_lt_of_cell? _ _ hw19003_1; first | rwa [add_block] at this | exact this) GW19011.out))) _).trans (((cell_far (p := ⟨gb19011, _, none⟩) (by first | exact Nat.ne_of_lt (Nat.lt_of_lt_of_le (by have := World.block_lt_of_cell? _ _ hw19003_1; first | rwa [add_block] at this | exact this) GW19011.out) | (rw [add_block]; exact Nat.ne_of_lt (Nat.lt_of_lt_of_le (by have := World.block_lt_of_cell? _ _ hw19003_1; first | rwa [add_block] at this | exact this) GW19011.out)) | (show (Addr.add _ _).block ≠ _; rw [add_block]; exact Nat.ne_of_lt (Nat.lt_of_lt_of_le (by have := World.block_lt_of_cell? _ _ hw19003_1; first | rwa [add_block] at this | exact this) GW19011.out)) | (dsimp only; exact Nat.ne_of_lt (Nat.lt_of_lt_of_le (by have := World.block_lt_of_cell? _ _ hw19003_1; first | rwa [add_block] at this | exact this) GW19011.out))) _).trans (((cell_far (p := ⟨gb19011, _, none⟩) (by first | exact Nat.ne_of_lt (Nat.lt_of_lt_of_le (by have := World.block_lt_of_cell? _ _ hw19003_1; first | rwa [add_block] at this | exact this) GW19011.out) | (rw [add_block]; exact Nat.ne_of_lt (Nat.lt_of_lt_of_le (by have := World.block_lt_of_cell? _ _ hw19003_1; first | rwa [add_block] at this | exact this) GW19011.out)) | (show (Addr.add _ _).block ≠ _; rw [add_block]; exact Nat.ne_of_lt (Nat.lt_of_lt_of_le (by have := World.block_lt_of_cell? _ _ hw19003_1; first | rwa [add_block] at this | exact this) GW19011.out)) | (dsimp only; exact Nat.ne_of_lt (Nat.lt_of_lt_of_le (by have := World.block_lt_of_cell? _ _ hw19003_1; first | rwa [add_block] at this | exact this) GW19011.out))) _).trans (hHeld.2.2.2.2.2.2.2.2.2.2.2.1)))))))))), ((cell_far (p := ⟨gb19011, _, none⟩) (by first | exact Nat.ne_of_lt (Nat.lt_of_lt_of_le (by have := World.block_lt_of_cell? _ _ hw19003_2; first | rwa [add_block] at this | exact this) GW19011.out) | (rw [add_block]; exact Nat.ne_of_lt (Nat.lt_of_lt_of_le (by have := World.block_lt_of_cell? _ _ hw19003_2; first | rwa [add_block] at this | exact this) GW19011.out)) | (show (Addr.add _ _).block ≠ _; rw [add_block]; exact Nat.ne_of_lt (Nat.lt_of_lt_of_le (by have := World.block_lt_of_cell? _ _ hw19003_2; first | rwa [add_block] at this | exact this) GW19011.out)) | (dsimp only; exact Nat.ne_of_lt (Nat.lt_of_lt_of_le (by have := World.block_lt_of_cell? _ _ hw19003_2; first | rwa [add_block] at this | exact this) GW19011.out))) _).trans (((cell_far (p := ⟨gb19011, _, none⟩) (by first | exact Nat.ne_of_lt (Nat.lt_of_lt_of_le (by have := World.block_lt_of_cell? _ _ hw19003_2; first | rwa [add_block] at this | exact this) GW19011.out) | (rw [add_block]; exact Nat.ne_of_lt (Nat.lt_of_lt_of_le (by have := World.block_lt_of_cell? _ _ hw19003_2; first | rwa [add_block] at this | exact this) GW19011.out)) | (show (Addr.add _ _).block ≠ _; rw [add_block]; exact Nat.ne_of_lt (Nat.lt_of_lt_of_le (by have := World.block_lt_of_cell? _ _ hw19003_2; first | rwa [add_block] at this | exact this) GW19011.out)) | (dsimp only; exact Nat.ne_of_lt (Nat.lt_of_lt_of_le (by have := World.block_lt_of_cell? _ _ hw19003_2; first | rwa [add_block] at this | exact this) GW19011.out))) _).trans (((cell_far (p := ⟨gb19011, _, none⟩) (by first | exact Nat.ne_of_lt (Nat.lt_of_lt_of_le (by have := World.block_lt_of_cell? _ _ hw19003_2; first | rwa [add_block] at this | exact this) GW19011.out) | (rw [add_block]; exact Nat.ne_of_lt (Nat.lt_of_lt_of_le (by have := World.block_lt_of_cell? _ _ hw19003_2; first | rwa [add_block] at this | exact this) GW19011.out)) | (show (Addr.add _ _).block ≠ _; rw [add_block]; exact Nat.ne_of_lt (Nat.lt_of_lt_of_le (by have := World.block_lt_of_cell? _ _ hw19003_2; first | rwa [add_block] at this | exact this) GW19011.out)) | (dsimp only; exact Nat.ne_of_lt (Nat.lt_of_lt_of_le (by have := World.block_lt_of_cell? _ _ hw19003_2; first | rwa [add_block] at this | exact this) GW19011.out))) _).trans (((cell_far (p := ⟨gb19011, _, none⟩) (by first | exact Nat.ne_of_lt (Nat.lt_of_lt_of_le (by have := World.block_lt_of_cell? _ _ hw19003_2; first | rwa [add_block] at this | exact this) GW19011.out) | (rw [add_block]; exact Nat.ne_of_lt (Nat.lt_of_lt_of_le (by have := World.block_lt_of_cell? _ _ hw19003_2; first | rwa [add_block] at this | exact this) GW19011.out)) | (show (Addr.add _ _).block ≠ _; rw [add_block]; exact Nat.ne_of_lt (Nat.lt_of_lt_of_le (by have := World.block_lt_of_cell? _ _ hw19003_2; first | rwa [add_block] at this | exact this) GW19011.out)) | (dsimp only; exact Nat.ne_of_lt (Nat.lt_of_lt_of_le (by have := World.block_lt_of_cell? _ _ hw19003_2; first | rwa [add_block] at this | exact this) GW19011.out))) _).trans (((cell_far (p := ⟨gb19011, _, none⟩) (by first | exact Nat.ne_of_lt (Nat.lt_of_lt_of_le (by have := World.block_lt_of_cell? _ _ hw19003_2; first | rwa [add_block] at this | exact this) GW19011.out) | (rw [add_block]; exact Nat.ne_of_lt (Nat.lt_of_lt_of_le (by have := World.block_lt_of_cell? _ _ hw19003_2; first | rwa [add_block] at this | exact this) GW19011.out)) | (show (Addr.add _ _).block ≠ _; rw [add_block]; exact Nat.ne_of_lt (Nat.lt_of_lt_of_le (by have := World.block_lt_of_cell? _ _ hw19003_2; first | rwa [add_block] at this | exact this) GW19011.out)) | (dsimp only; exact Nat.ne_of_lt (Nat.lt_of_lt_of_le (by have := World.block_lt_of_cell? _ _ hw19003_2; first | rwa [add_block] at this | exact this) GW19011.out))) _).trans (hHeld.2.2.2.2.2.2.2.2.2.2.2.2.1)))))))))), ((cell_far (p := ⟨gb19011, _, none⟩) (by first | exact Nat.ne_of_lt (Nat.lt_of_lt_of_le (by have := World.block_lt_of_cell? _ _ hw19003_3; first | rwa [add_block] at this | exact this) GW19011.out) | (rw [add_block]; exact Nat.ne_of_lt (Nat.lt_of_lt_of_le (by have := World.block_lt_of_cell? _ _ hw19003_3; first | rwa [add_block] at this | exact this) GW19011.out)) | (show (Addr.add _ _).block ≠ _; rw [add_block]; exact Nat.ne_of_lt (Nat.lt_of_lt_of_le (by have := World.block_lt_of_cell? _ _ hw19003_3; first | rwa [add_block] at this | exact this) GW19011.out)) | (dsimp only; exact Nat.ne_of_lt (Nat.lt_of_lt_of_le (by have := World.block_lt_of_cell? _ _ hw19003_3; first | rwa [add_block] at this | exact this) GW19011.out))) _).trans (((cell_far (p := ⟨gb19011, _, none⟩) (by first | exact Nat.ne_of_lt (Nat.lt_of_lt_of_le (by have := World.block_lt_of_cell? _ _ hw19003_3; first | rwa [add_block] at this | exact this) GW19011.out) | (rw [add_block]; exact Nat.ne_of_lt (Nat.lt_of_lt_of_le (by have := World.block_lt_of_cell? _ _ hw19003_3; first | rwa [add_block] at this | exact this) GW19011.out)) | (show (Addr.add _ _).block ≠ _; rw [add_block]; exact Nat.ne_of_lt (Nat.lt_of_lt_of_le (by have := World.block_lt_of_cell? _ _ hw19003_3; first | rwa [add_block] at this | exact this) GW19011.out)) | (dsimp only; exact Nat.ne_of_lt (Nat.lt_of_lt_of_le (by have := World.block_lt_of_cell? _ _ hw19003_3; first | rwa [add_block] at this | exact this) GW19011.out))) _).trans (((cell_far (p := ⟨gb19011, _, none⟩) (by first | exact Nat.ne_of_lt (Nat.lt_of_lt_of_le (by have := World.block_lt_of_cell? _ _ hw19003_3; first | rwa [add_block] at this | exact this) GW19011.out) | (rw [add_block]; exact Nat.ne_of_lt (Nat.lt_of_lt_of_le (by have := World.block_lt_of_cell? _ _ hw19003_3; first | rwa [add_block] at this | exact this) GW19011.out)) | (show (Addr.add _ _).block ≠ _; rw [add_block]; exact Nat.ne_of_lt (Nat.lt_of_lt_of_le (by have := World.block_lt_of_cell? _ _ hw19003_3; first | rwa [add_block] at this | exact this) GW19011.out)) | (dsimp only; exact Nat.ne_of_lt (Nat.lt_of_lt_of_le (by have := World.block_lt_of_cell? _ _ hw19003_3; first | rwa [add_block] at this | exact this) GW19011.out))) _).trans (((cell_far (p := ⟨gb19011, _, none⟩) (by first | exact Nat.ne_of_lt (Nat.lt_of_lt_of_le (by have := World.block_lt_of_cell? _ _ hw19003_3; first | rwa [add_block] at this | exact this) GW19011.out) | (rw [add_block]; exact Nat.ne_of_lt (Nat.lt_of_lt_of_le (by have := World.block_lt_of_cell? _ _ hw19003_3; first | rwa [add_block] at this | exact this) GW19011.out)) | (show (Addr.add _ _).block ≠ _; rw [add_block]; exact Nat.ne_of_lt (Nat.lt_of_lt_of_le (by have := World.block_lt_of_cell? _ _ hw19003_3; first | rwa [add_block] at this | exact this) GW19011.out)) | (dsimp only; exact Nat.ne_of_lt (Nat.lt_of_lt_of_le (by have := World.block_lt_of_cell? _ _ hw19003_3; first | rwa [add_block] at this | exact this) GW19011.out))) _).trans (((cell_far (p := ⟨gb19011, _, none⟩) (by first | exact Nat.ne_of_lt (Nat.lt_of_lt_of_le (by have := World.block_lt_of_cell? _ _ hw19003_3; first | rwa [add_block] at this | exact this) GW19011.out) | (rw [add_block]; exact Nat.ne_of_lt (Nat.lt_of_lt_of_le (by have := World.block_lt_of_cell? _ _ hw19003_3; first | rwa [add_block] at this | exact this) GW19011.out)) | (show (Addr.add _ _).block ≠ _; rw [add_block]; exact Nat.ne_of_lt (Nat.lt_of_lt_of_le (by have := World.block_lt_of_cell? _ _ hw19003_3; first | rwa [add_block] at this | exact this) GW19011.out)) | (dsimp only; exact Nat.ne_of_lt (Nat.lt_of_lt_of_le (by have := World.block_lt_of_cell? _ _ hw19003_3; first | rwa [add_block] at this | exact this) GW19011.out))) _).trans (hHeld.2.2.2.2.2.2.2.2.2.2.2.2.2.1)))))))))), ((cell_far (p := ⟨gb19011, _, none⟩) (by first | exact Nat.ne_of_lt (Nat.lt_of_lt_of_le (by have := World.block_lt_of_cell? _ _ hw19003_4; first | rwa [add_block] at this | exact this) GW19011.out) | (rw [add_block]; exact Nat.ne_of_lt (Nat.lt_of_lt_of_le (by have := World.block_lt_of_cell? _ _ hw19003_4; first | rwa [add_block] at this | exact this) GW19011.out)) | (show (Addr.add _ _).block ≠ _; rw [add_block]; exact Nat.ne_of_lt (Nat.lt_of_lt_of_le (by have := World.block_lt_of_cell? _ _ hw19003_4; first | rwa [add_block] at this | exact this) GW19011.out)) | (dsimp only; exact Nat.ne_of_lt (Nat.lt_of_lt_of_le (by have := World.block_lt_of_cell? _ _ hw19003_4; first | rwa [add_block] at this | exact this) GW19011.out))) _).trans (((cell_far (p := ⟨gb19011, _, none⟩) (by first | exact Nat.ne_of_lt (Nat.lt_of_lt_of_le (by have := World.block_lt_of_cell? _ _ hw19003_4; first | rwa [add_block] at this | exact this) GW19011.out) | (rw [add_block]; exact Nat.ne_of_lt (Nat.lt_of_lt_of_le (by have := World.block_lt_of_cell? _ _ hw19003_4; first | rwa [add_block] at this | exact this) GW19011.out)) | (show (Addr.add _ _).block ≠ _; rw [add_block]; exact Nat.ne_of_lt (Nat.lt_of_lt_of_le (by have := World.block_lt_of_cell? _ _ hw19003_4; first | rwa [add_block] at this | exact this) GW19011.out)) | (dsimp only; exact Nat.ne_of_lt (Nat.lt_of_lt_of_le (by have := World.block_lt_of_cell? _ _ hw19003_4; first | rwa [add_block] at this | exact this) GW19011.out))) _).trans (((cell_far (p := ⟨gb19011, _, none⟩) (by first | exact Nat.ne_of_lt (Nat.lt_of_lt_of_le (by have := World.block_lt_of_cell? _ _ hw19003_4; first | rwa [add_block] at this | exact this) GW19011.out) | (rw [add_block]; exact Nat.ne_of_lt (Nat.lt_of_lt_of_le (by have := World.block_lt_of_cell? _ _ hw19003_4; first | rwa [add_block] at this | exact this) GW19011.out)) | (show (Addr.add _ _).block ≠ _; rw [add_block]; exact Nat.ne_of_lt (Nat.lt_of_lt_of_le (by have := World.block_lt_of_cell? _ _ hw19003_4; first | rwa [add_block] at this | exact this) GW19011.out)) | (dsimp only; exact Nat.ne_of_lt (Nat.lt_of_lt_of_le (by have := World.block_lt_of_cell? _ _ hw19003_4; first | rwa [add_block] at this | exact this) GW19011.out))) _).trans (((cell_far (p := ⟨gb19011, _, none⟩) (by first | exact Nat.ne_of_lt (Nat.lt_of_lt_of_le (by have := World.block_lt_of_cell? _ _ hw19003_4; first | rwa [add_block] at this | exact this) GW19011.out) | (rw [add_block]; exact Nat.ne_of_lt (Nat.lt_of_lt_of_le (by have := World.block_lt_of_cell? _ _ hw19003_4; first | rwa [add_block] at this | exact this) GW19011.out)) | (show (Addr.add _ _).block ≠ _; rw [add_block]; exact Nat.ne_of_lt (Nat.lt_of_lt_of_le (by have := World.block_lt_of_cell? _ _ hw19003_4; first | rwa [add_block] at this | exact this) GW19011.out)) | (dsimp only; exact Nat.ne_of_lt (Nat.lt_of_lt_of_le (by have := World.block_lt_of_cell? _ _ hw19003_4; first | rwa [add_block] at this | exact this) GW19011.out))) _).trans (((cell_far (p := ⟨gb19011, _, none⟩) (by first | exact Nat.ne_of_lt (Nat.lt_of_lt_of_le (by have := World.block_lt_of_cell? _ _ hw19003_4; first | rwa [add_block] at this | exact this) GW19011.out) | (rw [add_block]; exact Nat.ne_of_lt (Nat.lt_of_lt_of_le (by have := World.block_lt_of_cell? _ _ hw19003_4; first | rwa [add_block] at this | exact this) GW19011.out)) | (show (Addr.add _ _).block ≠ _; rw [add_block]; exact Nat.ne_of_lt (Nat.lt_of_lt_of_le (by have := World.block_lt_of_cell? _ _ hw19003_4; first | rwa [add_block] at this | exact this) GW19011.out)) | (dsimp only; exact Nat.ne_of_lt (Nat.lt_of_lt_of_le (by have := World.block_lt_of_cell? _ _ hw19003_4; first | rwa [add_block] at this | exact this) GW19011.out))) _).trans (hHeld.2.2.2.2.2.2.2.2.2.2.2.2.2.2.1)))))))))), ((cell_far (p := ⟨gb19011, _, none⟩) (by first | exact Nat.ne_of_lt (Nat.lt_of_lt_of_le (by have := World.block_lt_of_cell? _ _ hw19007_0; first | rwa [add_block] at this | exact this) GW19011.out) | (rw [add_block]; exact Nat.ne_of_lt (Nat.lt_of_lt_of_le (by have := World.block_lt_of_cell? _ _ hw19007_0; first | rwa [add_block] at this | exact this) GW19011.out)) | (show (Addr.add _ _).block ≠ _; rw [add_block]; exact Nat.ne_of_lt (Nat.lt_of_lt_of_le (by have := World.block_lt_of_cell? _ _ hw19007_0; first | rwa [add_block] at this | exact this) GW19011.out)) | (dsimp only; exact Nat.ne_of_lt (Nat.lt_of_lt_of_le (by have := World.block_lt_of_cell? _ _ hw19007_0; first | rwa [add_block] at this | exact this) GW19011.out))) _).trans (((cell_far (p := ⟨gb19011, _, none⟩) (by first | exact Nat.ne_of_lt (Nat.lt_of_lt_of_le (by have := World.block_lt_of_cell? _ _ hw19007_0; first | rwa [add_block] at this | exact this) GW19011.out) | (rw [add_block]; exact Nat.ne_of_lt (Nat.lt_of_lt_of_le (by have := World.block_lt_of_cell? _ _ hw19007_0; first | rwa [add_block] at this | exact this) GW19011.out)) | (show (Addr.add _ _).block ≠ _; rw [add_block]; exact Nat.ne_of_lt (Nat.lt_of_lt_of_le (by have := World.block_lt_of_cell? _ _ hw19007_0; first | rwa [add_block] at this | exact this) GW19011.out)) | (dsimp only; exact Nat.ne_of_lt (Nat.lt_of_lt_of_le (by have := World.block_lt_of_cell? _ _ hw19007_0; first | rwa [add_block] at this | exact this) GW19011.out))) _).trans (((cell_far (p := ⟨gb19011, _, none⟩) (by first | exact Nat.ne_of_lt (Nat.lt_of_lt_of_le (by have := World.block_lt_of_cell? _ _ hw19007_0; first | rwa [add_block] at this | exact this) GW19011.out) | (rw [add_block]; exact Nat.ne_of_lt (Nat.lt_of_lt_of_le (by have := World.block_lt_of_cell? _ _ hw19007_0; first | rwa [add_block] at this | exact this) GW19011.out)) | (show (Addr.add _ _).block ≠ _; rw [add_block]; exact Nat.ne_of_lt (Nat.lt_of_lt_of_le (by have := World.block_lt_of_cell? _ _ hw19007_0; first | rwa [add_block] at this | exact this) GW19011.out)) | (dsimp only; exact Nat.ne_of_lt (Nat.lt_of_lt_of_le (by have := World.block_lt_of_cell? _ _ hw19007_0; first | rwa [add_block] at this | exact this) GW19011.out))) _).trans (((cell_far (p := ⟨gb19011, _, none⟩) (by first | exact Nat.ne_of_lt (Nat.lt_of_lt_of_le (by have := World.block_lt_of_cell? _ _ hw19007_0; first | rwa [add_block] at this | exact this) GW19011.out) | (rw [add_block]; exact Nat.ne_of_lt (Nat.lt_of_lt_of_le (by have := World.block_lt_of_cell? _ _ hw19007_0; first | rwa [add_block] at this | exact this) GW19011.out)) | (show (Addr.add _ _).block ≠ _; rw [add_block]; exact Nat.ne_of_lt (Nat.lt_of_lt_of_le (by have := World.block_lt_of_cell? _ _ hw19007_0; first | rwa [add_block] at this | exact this) GW19011.out)) | (dsimp only; exact Nat.ne_of_lt (Nat.lt_of_lt_of_le (by have := World.block_lt_of_cell? _ _ hw19007_0; first | rwa [add_block] at this | exact this) GW19011.out))) _).trans (((cell_far (p := ⟨gb19011, _, none⟩) (by first | exact Nat.ne_of_lt (Nat.lt_of_lt_of_le (by have := World.block_lt_of_cell? _ _ hw19007_0; first | rwa [add_block] at this | exact this) GW19011.out) | (rw [add_block]; exact Nat.ne_of_lt (Nat.lt_of_lt_of_le (by have := World.block_lt_of_cell? _ _ hw19007_0; first | rwa [add_block] at this | exact this) GW19011.out)) | (show (Addr.add _ _).block ≠ _; rw [add_block]; exact Nat.ne_of_lt (Nat.lt_of_lt_of_le (by have := World.block_lt_of_cell? _ _ hw19007_0; first | rwa [add_block] at this | exact this) GW19011.out)) | (dsimp only; exact Nat.ne_of_lt (Nat.lt_of_lt_of_le (by have := World.block_lt_of_cell? _ _ hw19007_0; first | rwa [add_block] at this | exact this) GW19011.out))) _).trans (hHeld.2.2.2.2.2.2.2.2.2.2.2.2.2.2.2.1)))))))))), ((cell_far (p := ⟨gb19011, _, none⟩) (by first | exact Nat.ne_of_lt (Nat.lt_of_lt_of_le (by have := World.block_lt_of_cell? _ _ hw19007_1; first | rwa [add_block] at this | exact this) GW19011.out) | (rw [add_block]; exact Nat.ne_of_lt (Nat.lt_of_lt_of_le (by have := World.block_lt_of_cell? _ _ hw19007_1; first | rwa [add_block] at this | exact this) GW19011.out)) | (show (Addr.add _ _).block ≠ _; rw [add_block]; exact Nat.ne_of_lt (Nat.lt_of_lt_of_le (by have := World.block_lt_of_cell? _ _ hw19007_1; first | rwa [add_block] at this | exact this) GW19011.out)) | (dsimp only; exact Nat.ne_of_lt (Nat.lt_of_lt_of_le (by have := World.block_lt_of_cell? _ _ hw19007_1; first | rwa [add_block] at this | exact this) GW19011.out))) _).trans (((cell_far (p := ⟨gb19011, _, none⟩) (by first | exact Nat.ne_of_lt (Nat.lt_of_lt_of_le (by have := World.block_lt_of_cell? _ _ hw19007_1; first | rwa [add_block] at this | exact this) GW19011.out) | (rw [add_block]; exact Nat.ne_of_lt (Nat.lt_of_lt_of_le (by have := World.block_lt_of_cell? _ _ hw19007_1; first | rwa [add_block] at this | exact this) GW19011.out)) | (show (Addr.add _ _).block ≠ _; rw [add_block]; exact Nat.ne_of_lt (Nat.lt_of_lt_of_le (by have := World.block_lt_of_cell? _ _ hw19007_1; first | rwa [add_block] at this | exact this) GW19011.out)) | (dsimp only; exact Nat.ne_of_lt (Nat.lt_of_lt_of_le (by have := World.block_lt_of_cell? _ _ hw19007_1; first | rwa [add_block] at this | exact this) GW19011.out))) _).trans (((cell_far (p := ⟨gb19011, _, none⟩) (by first | exact Nat.ne_of_lt (Nat.lt_of_lt_of_le (by have := World.block_lt_of_cell? _ _ hw19007_1; first | rwa [add_block] at this | exact this) GW19011.out) | (rw [add_block]; exact Nat.ne_of_lt (Nat.lt_of_lt_of_le (by have := World.block_lt_of_cell? _ _ hw19007_1; first | rwa [add_block] at this | exact this) GW19011.out)) | (show (Addr.add _ _).block ≠ _; rw [add_block]; exact Nat.ne_of_lt (Nat.lt_of_lt_of_le (by have := World.block_lt_of_cell? _ _ hw19007_1; first | rwa [add_block] at this | exact this) GW19011.out)) | (dsimp only; exact Nat.ne_of_lt (Nat.lt_of_lt_of_le (by have := World.block_lt_of_cell? _ _ hw19007_1; first | rwa [add_block] at this | exact this) GW19011.out))) _).trans (((cell_far (p := ⟨gb19011, _, none⟩) (by first | exact Nat.ne_of_lt (Nat.lt_of_lt_of_le (by have := World.block_lt_of_cell? _ _ hw19007_1; first | rwa [add_block] at this | exact this) GW19011.out) | (rw [add_block]; exact Nat.ne_of_lt (Nat.lt_of_lt_of_le (by have := World.block_lt_of_cell? _ _ hw19007_1; first | rwa [add_block] at this | exact this) GW19011.out)) | (show (Addr.add _ _).block ≠ _; rw [add_block]; exact Nat.ne_of_lt (Nat.lt_of_lt_of_le (by have := World.block_lt_of_cell? _ _ hw19007_1; first | rwa [add_block] at this | exact this) GW19011.out)) | (dsimp only; exact Nat.ne_of_lt (Nat.lt_of_lt_of_le (by have := World.block_lt_of_cell? _ _ hw19007_1; first | rwa [add_block] at this | exact this) GW19011.out))) _).trans (((cell_far (p := ⟨gb19011, _, none⟩) (by first | exact Nat.ne_of_lt (Nat.lt_of_lt_of_le (by have := World.block_lt_of_cell? _ _ hw19007_1; first | rwa [add_block] at this | exact this) GW19011.out) | (rw [add_block]; exact Nat.ne_of_lt (Nat.lt_of_lt_of_le (by have := World.block_lt_of_cell? _ _ hw19007_1; first | rwa [add_block] at this | exact this) GW19011.out)) | (show (Addr.add _ _).block ≠ _; rw [add_block]; exact Nat.ne_of_lt (Nat.lt_of_lt_of_le (by have := World.block_lt_of_cell? _ _ hw19007_1; first | rwa [add_block] at this | exact this) GW19011.out)) | (dsimp only; exact Nat.ne_of_lt (Nat.lt_of_lt_of_le (by have := World.block_lt_of_cell? _ _ hw19007_1; first | rwa [add_block] at this | exact this) GW19011.out))) _).trans (hHeld.2.2.2.2.2.2.2.2.2.2.2.2.2.2.2.2.1)))))))))), ((cell_far (p := ⟨gb19011, _, none⟩) (by first | exact Nat.ne_of_lt (Nat.lt_of_lt_of_le (by have := World.block_lt_of_cell? _ _ hw19007_2; first | rwa [add_block] at this | exact this) GW19011.out) | (rw [add_block]; exact Nat.ne_of_lt (Nat.lt_of_lt_of_le (by have := World.block_lt_of_cell? _ _ hw19007_2; first | rwa [add_block] at this | exact this) GW19011.out)) | (show (Addr.add _ _).block ≠ _; rw [add_block]; exact Nat.ne_of_lt (Nat.lt_of_lt_of_le (by have := World.block_lt_of_cell? _ _ hw19007_2; first | rwa [add_block] at this | exact this) GW19011.out)) | (dsimp only; exact Nat.ne_of_lt (Nat.lt_of_lt_of_le (by have := World.block_lt_of_cell? _ _ hw19007_2; first | rwa [add_block] at this | exact this) GW19011.out))) _).trans (((cell_far (p := ⟨gb19011, _, none⟩) (by first | exact Nat.ne_of_lt (Nat.lt_of_lt_of_le (by have := World.block_lt_of_cell? _ _ hw19007_2; first | rwa [add_block] at this | exact this) GW19011.out) | (rw [add_block]; exact Nat.ne_of_lt (Nat.lt_of_lt_of_le (by have := World.block_lt_of_cell? _ _ hw19007_2; first | rwa [add_block] at this | exact this) GW19011.out)) | (show (Addr.add _ _).block ≠ _; rw [add_block]; exact Nat.ne_of_lt (Nat.lt_of_lt_of_le (by have := World.block_lt_of_cell? _ _ hw19007_2; first | rwa [add_block] at this | exact this) GW19011.out)) | (dsimp only; exact Nat.ne_of_lt (Nat.lt_of_lt_of_le (by have := World.block_lt_of_cell? _ _ hw19007_2; first | rwa [add_block] at this | exact this) GW19011.out))) _).trans (((cell_far (p := ⟨gb19011, _, none⟩) (by first | exact Nat.ne_of_lt (Nat.lt_of_lt_of_le (by have := World.block_lt_of_cell? _ _ hw19007_2; first | rwa [add_block] at this | exact this) GW19011.out) | (rw [add_block]; exact Nat.ne_of_lt (Nat.lt_of_lt_of_le (by have := World.block_lt_of_cell? _ _ hw19007_2; first | rwa [add_block] at this | exact this) GW19011.out)) | (show (Addr.add _ _).block ≠ _; rw [add_block]; exact Nat.ne_of_lt (Nat.lt_of_lt_of_le (by have := World.block_lt_of_cell? _ _ hw19007_2; first | rwa [add_block] at this | exact this) GW19011.out)) | (dsimp only; exact Nat.ne_of_lt (Nat.lt_of_lt_of_le (by have := World.block_lt_of_cell? _ _ hw19007_2; first | rwa [add_block] at this | exact this) GW19011.out))) _).trans (((cell_far (p := ⟨gb19011, _, none⟩) (by first | exact Nat.ne_of_lt (Nat.lt_of_lt_of_le (by have := World.block_lt_of_cell? _ _ hw19007_2; first | rwa [add_block] at this | exact this) GW19011.out) | (rw [add_block]; exact Nat.ne_of_lt (Nat.lt_of_lt_of_le (by have := World.block_lt_of_cell? _ _ hw19007_2; first | rwa [add_block] at this | exact this) GW19011.out)) | (show (Addr.add _ _).block ≠ _; rw [add_block]; exact Nat.ne_of_lt (Nat.lt_of_lt_of_le (by have := World.block_lt_of_cell? _ _ hw19007_2; first | rwa [add_block] at this | exact this) GW19011.out)) | (dsimp only; exact Nat.ne_of_lt (Nat.lt_of_lt_of_le (by have := World.block_lt_of_cell? _ _ hw19007_2; first | rwa [add_block] at this | exact this) GW19011.out))) _).trans (((cell_far (p := ⟨gb19011, _, none⟩) (by first | exact Nat.ne_of_lt (Nat.lt_of_lt_of_le (by have := World.block_lt_of_cell? _ _ hw19007_2; first | rwa [add_block] at this | exact this) GW19011.out) | (rw [add_block]; exact Nat.ne_of_lt (Nat.lt_of_lt_of_le (by have := World.block_lt_of_cell? _ _ hw19007_2; first | rwa [add_block] at this | exact this) GW19011.out)) | (show (Addr.add _ _).block ≠ _; rw [add_block]; exact Nat.ne_of_lt (Nat.lt_of_lt_of_le (by have := World.block_lt_of_cell? _ _ hw19007_2; first | rwa [add_block] at this | exact this) GW19011.out)) | (dsimp only; exact Nat.ne_of_lt (Nat.lt_of_lt_of_le (by have := World.block_lt_of_cell? _ _ hw19007_2; first | rwa [add_block] at this | exact this) GW19011.out))) _).trans (hHeld.2.2.2.2.2.2.2.2.2.2.2.2.2.2.2.2.2.1)))))))))), ((cell_far (p := ⟨gb19011, _, none⟩) (by first | exact Nat.ne_of_lt (Nat.lt_of_lt_of_le (by have := World.block_lt_of_cell? _ _ hw19007_3; first | rwa [add_block] at this | exact this) GW19011.out) | (rw [add_block]; exact Nat.ne_of_lt (Nat.lt_of_lt_of_le (by have := World.block_lt_of_cell? _ _ hw19007_3; first | rwa [add_block] at this | exact this) GW19011.out)) | (show (Addr.add _ _).block ≠ _; rw [add_block]; exact Nat.ne_of_lt (Nat.lt_of_lt_of_le (by have := World.block_lt_of_cell? _ _ hw19007_3; first | rwa [add_block] at this | exact this) GW19011.out)) | (dsimp only; exact Nat.ne_of_lt (Nat.lt_of_lt_of_le (by have := World.block_lt_of_cell? _ _ hw19007_3; first | rwa [add_block] at this | exact this) GW19011.out))) _).trans (((cell_far (p := ⟨gb19011, _, none⟩) (by first | exact Nat.ne_of_lt (Nat.lt_of_lt_of_le (by have := World.block_lt_of_cell? _ _ hw19007_3; first | rwa [add_block] at this | exact this) GW19011.out) | (rw [add_block]; exact Nat.ne_of_lt (Nat.lt_of_lt_of_le (by have := World.block_lt_of_cell? _ _ hw19007_3; first | rwa [add_block] at this | exact this) GW19011.out)) | (show (Addr.add _ _).block ≠ _; rw [add_block]; exact Nat.ne_of_lt (Nat.lt_of_lt_of_le (by have := World.block_lt_of_cell? _ _ hw19007_3; first | rwa [add_block] at this | exact this) GW19011.out)) | (dsimp only; exact Nat.ne_of_lt (Nat.lt_of_lt_of_le (by have := World.block_lt_of_cell? _ _ hw19007_3; first | rwa [add_block] at this | exact this) GW19011.out))) _).trans (((cell_far (p := ⟨gb19011, _, none⟩) (by first | exact Nat.ne_of_lt (Nat.lt_of_lt_of_le (by have := World.block_lt_of_cell? _ _ hw19007_3; first | rwa [add_block] at this | exact this) GW19011.out) | (rw [add_block]; exact Nat.ne_of_lt (Nat.lt_of_lt_of_le (by have := World.block_lt_of_cell? _ _ hw19007_3; first | rwa [add_block] at this | exact this) GW19011.out)) | (show (Addr.add _ _).block ≠ _; rw [add_block]; exact Nat.ne_of_lt (Nat.lt_of_lt_of_le (by have := World.block_lt_of_cell? _ _ hw19007_3; first | rwa [add_block] at this | exact this) GW19011.out)) | (dsimp only; exact Nat.ne_of_lt (Nat.lt_of_lt_of_le (by have := World.block_lt_of_cell? _ _ hw19007_3; first | rwa [add_block] at this | exact this) GW19011.out))) _).trans (((cell_far (p := ⟨gb19011, _, none⟩) (by first | exact Nat.ne_of_lt (Nat.lt_of_lt_of_le (by have := World.block_lt_of_cell? _ _ hw19007_3; first | rwa [add_block] at this | exact this) GW19011.out) | (rw [add_block]; exact Nat.ne_of_lt (Nat.lt_of_lt_of_le (by have := World.block_lt_of_cell? _ _ hw19007_3; first | rwa [add_block] at this | exact this) GW19011.out)) | (show (Addr.add _ _).block ≠ _; rw [add_block]; exact Nat.ne_of_lt (Nat.lt_of_lt_of_le (by have := World.block_lt_of_cell? _ _ hw19007_3; first | rwa [add_block] at this | exact this) GW19011.out)) | (dsimp only; exact Nat.ne_of_lt (Nat.lt_of_lt_of_le (by have := World.block_lt_of_cell? _ _ hw19007_3; first | rwa [add_block] at this | exact this) GW19011.out))) _).trans (((cell_far (p := ⟨gb19011, _, none⟩) (by first | exact Nat.ne_of_lt (Nat.lt_of_lt_of_le (by have := World.block_lt_of_cell? _ _ hw19007_3; first | rwa [add_block] at this | exact this) GW19011.out) | (rw [add_block]; exact Nat.ne_of_lt (Nat.lt_of_lt_of_le (by have := World.block_lt_of_cell? _ _ hw19007_3; first | rwa [add_block] at this | exact this) GW19011.out)) | (show (Addr.add _ _).block ≠ _; rw [add_block]; exact Nat.ne_of_lt (Nat.lt_of_lt_of_le (by have := World.block_lt_of_cell? _ _ hw19007_3; first | rwa [add_block] at this | exact this) GW19011.out)) | (dsimp only; exact Nat.ne_of_lt (Nat.lt_of_lt_of_le (by have := World.block_lt_of_cell? _ _ hw19007_3; first | rwa [add_block] at this | exact this) GW19011.out))) _).trans (hHeld.2.2.2.2.2.2.2.2.2.2.2.2.2.2.2.2.2.2.1)))))))))), ((cell_far (p := ⟨gb19011, _, none⟩) (by first | exact Nat.ne_of_lt (Nat.lt_of_lt_of_le (by have := World.block_lt_of_cell? _ _ hw19007_4; first | rwa [add_block] at this | exact this) GW19011.out) | (rw [add_block]; exact Nat.ne_of_lt (Nat.lt_of_lt_of_le (by have := World.block_lt_of_cell? _ _ hw19007_4; first | rwa [add_block] at this | exact this) GW19011.out)) | (show (Addr.add _ _).block ≠ _; rw [add_block]; exact Nat.ne_of_lt (Nat.lt_of_lt_of_le (by have := World.block_lt_of_cell? _ _ hw19007_4; first | rwa [add_block] at this | exact this) GW19011.out)) | (dsimp only; exact Nat.ne_of_lt (Nat.lt_of_lt_of_le (by have := World.block_lt_of_cell? _ _ hw19007_4; first | rwa [add_block] at this | exact this) GW19011.out))) _).trans (((cell_far (p := ⟨gb19011, _, none⟩) (by first | exact Nat.ne_of_lt (Nat.lt_of_lt_of_le (by have := World.block_lt_of_cell? _ _ hw19007_4; first | rwa [add_block] at this | exact this) GW19011.out) | (rw [add_block]; exact Nat.ne_of_lt (Nat.lt_of_lt_of_le (by have := World.block_lt_of_cell? _ _ hw19007_4; first | rwa [add_block] at this | exact this) GW19011.out)) | (show (Addr.add _ _).block ≠ _; rw [add_block]; exact Nat.ne_of_lt (Nat.lt_of_lt_of_le (by have := World.block_lt_of_cell? _ _ hw19007_4; first | rwa [add_block] at this | exact this) GW19011.out)) | (dsimp only; exact Nat.ne_of_lt (Nat.lt_of_lt_of_le (by have := World.block_lt_of_cell? _ _ hw19007_4; first | rwa [add_block] at this | exact this) GW19011.out))) _).trans (((cell_far (p := ⟨gb19011, _, none⟩) (by first | exact Nat.ne_of_lt (Nat.lt_of_lt_of_le (by have := World.block_lt_of_cell? _ _ hw19007_4; first | rwa [add_block] at this | exact this) GW19011.out) | (rw [add_block]; exact Nat.ne_of_lt (Nat.lt_of_lt_of_le (by have := World.block_lt_of_cell? _ _ hw19007_4; first | rwa [add_block] at this | exact this) GW19011.out)) | (show (Addr.add _ _).block ≠ _; rw [add_block]; exact Nat.ne_of_lt (Nat.lt_of_lt_of_le (by have := World.block_lt_of_cell? _ _ hw19007_4; first | rwa [add_block] at this | exact this) GW19011.out)) | (dsimp only; exact Nat.ne_of_lt (Nat.lt_of_lt_of_le (by have := World.block_lt_of_cell? _ _ hw19007_4; first | rwa [add_block] at this | exact this) GW19011.out))) _).trans (((cell_far (p := ⟨gb19011, _, none⟩) (by first | exact Nat.ne_of_lt (Nat.lt_of_lt_of_le (by have := World.block_lt_of_cell? _ _ hw19007_4; first | rwa [add_block] at this | exact this) GW19011.out) | (rw [add_block]; exact Nat.ne_of_lt (Nat.lt_of_lt_of_le (by have := World.block_lt_of_cell? _ _ hw19007_4; first | rwa [add_block] at this | exact this) GW19011.out)) | (show (Addr.add _ _).block ≠ _; rw [add_block]; exact Nat.ne_of_lt (Nat.lt_of_lt_of_le (by have := World.block_lt_of_cell? _ _ hw19007_4; first | rwa [add_block] at this | exact this) GW19011.out)) | (dsimp only; exact Nat.ne_of_lt (Nat.lt_of_lt_of_le (by have := World.block_lt_of_cell? _ _ hw19007_4; first | rwa [add_block] at this | exact this) GW19011.out))) _).trans (((cell_far (p := ⟨gb19011, _, none⟩) (by first | exact Nat.ne_of_lt (Nat.lt_of_lt_of_le (by have := World.block_lt_of_cell? _ _ hw19007_4; first | rwa [add_block] at this | exact this) GW19011.out) | (rw [add_block]; exact Nat.ne_of_lt (Nat.lt_of_lt_of_le (by have := World.block_lt_of_cell? _ _ hw19007_4; first | rwa [add_block] at this | exact this) GW19011.out)) | (show (Addr.add _ _).block ≠ _; rw [add_block]; exact Nat.ne_of_lt (Nat.lt_of_lt_of_le (by have := World.block_lt_of_cell? _ _ hw19007_4; first | rwa [add_block] at this | exact this) GW19011.out)) | (dsimp only; exact Nat.ne_of_lt (Nat.lt_of_lt_of_le (by have := World.block_lt_of_cell? _ _ hw19007_4; first | rwa [add_block] at this | exact this) GW19011.out))) _).trans (hHeld.2.2.2.2.2.2.2.2.2.2.2.2.2.2.2.2.2.2.2))))))))))⟩ (fun hHeld => ?_)
     clear hK K
     refine done_ (done_of HT_.out (by kernel_rfl)) ?_
     try go_wp2
     go_loopg [6] k1 (fun kq v6 w' => ∃ (x6_2 : Int) (x19012003_2 : List (S53)) (u19012003 : Value), v6 = .int .i64 x6_2 ∧ Aside0 (tinderref08_Copy.l1 kq l0 x3_1 x4_1 x6_2 ((rd_T44 l0 x4_1).f0) t19004 ((rd_T44 l0 x4_1).f2) x19012003_2 t19008 = some r) ∧ Aside0 (kq ≤ k1) ∧ Aside0 (Kd.R k44 44 w' w.heap.size (fun k_ => some k_ ≠ ((.slice Ao14 t19004.length co14) : Value).ownBlock ∧ some k_ ≠ (u19012003 : Value).ownBlock ∧ some k_ ≠ ((.slice Ao13 t19008.length co13) : Value).ownBlock ∧ k_ ≠ gb19011) u3 x3_1) ∧ Aside0 (Kd.R (Kd.int .u32) 66 w' w.heap.size (fun k_ => some k_ ≠ ((.slice Ao13 t19008.length co13) : Value).ownBlock) (.slice Ao14 t19004.length co14) t19004) ∧ Aside0 (Kd.S k53 53 w' w.heap.size (fun _ => True) u19012003 x19012003_2) ∧ Aside0 (Kd.R (Kd.int .u32) 66 w' w.heap.size (fun k_ => some k_ ≠ ((.slice Ao14 t19004.length co14) : Value).ownBlock) (.slice Ao13 t19008.length co13) t19008) ∧ Aside0 (w'.heap[gb19011]? = some (.cells #[.string ((rd_T44 l0 x4_1).f0), (.slice Ao14 t19004.length co14), .int .i64 ((rd_T44 l0 x4_1).f2), u19012003, (.slice Ao13 t19008.length co13)] 44 (0, 0))) ∧ Aside0 (Below w.heap.size w w'))
     case atStart => exact ⟨(0), (([] : List (S53))), (.slice none 0 0), (by first | rfl | (simp; done) | (simp [*]; done)), H', ⟨Nat.le_refl _⟩, ⟨by (with_reducible repeat (first | apply Kd.R_alloc | apply Kd.R_drewN | apply Kd.R_drew)); exact Kd.R_mono (Kd.R_far (p := ⟨gb19011, 4, none⟩) (Kd.R_far (p := ⟨gb19011, 3, none⟩) (Kd.R_far (p := ⟨gb19011, 2, none⟩) (Kd.R_far (p := ⟨gb19011, 1, none⟩) (Kd.R_far (p := ⟨gb19011, 0, none⟩) (Kd.R_mono HO_3.out (fun k_ hk => (⟨hk, hk.2.2⟩ : _ ∧ k_ ≠ gb19011))) (fun _ hk => hk.2) (.string ((rd_T44 l0 x4_1).f0))) (fun _ hk => hk.2) (.slice Ao14 t19004.length co14)) (fun _ hk => hk.2) (.int .i64 ((rd_T44 l0 x4_1).f2))) (fun _ hk => hk.2) (.slice none 0 0)) (fun _ hk => hk.2) (.slice Ao13 t19008.length co13)) (fun _ hk => ⟨hk.1.1, ⟨(by simp [Value.ownBlock]), ⟨hk.1.2.1, hk.1.2.2⟩⟩⟩)⟩, ⟨by (with_reducible repeat (first | apply Kd.R_alloc | apply Kd.R_drewN | apply Kd.R_drew)); exact Kd.R_mono (Kd.R_far (p := ⟨gb19011, 4, none⟩) (Kd.R_far (p := ⟨gb19011, 3, none⟩) (Kd.R_far (p := ⟨gb19011, 2, none⟩) (Kd.R_far (p := ⟨gb19011, 1, none⟩) (Kd.R_far (p := ⟨gb19011, 0, none⟩) (Kd.R_types HO19006.out BK19011.out (by decide)) (fun _ hk => hk.2) (.string ((rd_T44 l0 x4_1).f0))) (fun _ hk => hk.2) (.slice Ao14 t19004.length co14)) (fun _ hk => hk.2) (.int .i64 ((rd_T44 l0 x4_1).f2))) (fun _ hk => hk.2) (.slice none 0 0)) (fun _ hk => hk.2) (.slice Ao13 t19008.length co13)) (fun _ hk => hk.1)⟩, ⟨by first | exact Kd.S_nil _ _ _ _ _ | exact Kd.N_nil _ _ _ _ _ | exact Kd.V_nil _ _ _ _ _ | exact Kd.Q_nil _ _ _ _ _ | exact Kd.R_nil _ _ _ _ _⟩, ⟨by (with_reducible repeat (first | apply Kd.R_alloc | apply Kd.R_drewN | apply Kd.R_drew)); exact Kd.R_mono (Kd.R_far (p := ⟨gb19011, 4, none⟩) (Kd.R_far (p := ⟨gb19011, 3, none⟩) (Kd.R_far (p := ⟨gb19011, 2, none⟩) (Kd.R_far (p := ⟨gb19011, 1, none⟩) (Kd.R_far (p := ⟨gb19011, 0, none⟩) (Kd.R_types HO19010.out BK19011.out (by decide)) (fun _ hk => hk.2) (.string ((rd_T44 l0 x4_1).f0))) (fun _ hk => hk.2) (.slice Ao14 t19004.length co14)) (fun _ hk => hk.2) (.int .i64 ((rd_T44 l0 x4_1).f2))) (fun _ hk => hk.2) (.slice none 0 0)) (fun _ hk => hk.2) (.slice Ao13 t19008.length co13)) (fun _ hk => hk.1)⟩, ⟨by (with_reducible repeat (first | refine blk_drewN ?_ _ | refine blk_drew ?_ | refine blk_alloc ?_ _)); refine blk_put (cs := #[.string ((rd_T44 l0 x4_1).f0), .slice Ao14 t19004.length co14, .int .i64 ((rd_T44 l0 x4_1).f2), .slice none 0 0, .slice none 0 0]) ?_ 4 _ rfl; (with_reducible repeat (first | refine blk_drewN ?_ _ | refine blk_drew ?_ | refine blk_alloc ?_ _)); refine blk_put (cs := #[.string ((rd_T44 l0 x4_1).f0), .slice Ao14 t19004.length co14, .int .i64 ((rd_T44 l0 x4_1).f2), .slice none 0 0, .slice none 0 0]) ?_ 3 _ rfl; (with_reducible repeat (first | refine blk_drewN ?_ _ | refine blk_drew ?_ | refine blk_alloc ?_ _)); refine blk_put (cs := #[.string ((rd_T44 l0 x4_1).f0), .slice Ao14 t19004.length co14, .int .i64 0, .slice none 0 0, .slice none 0 0]) ?_ 2 _ rfl; (with_reducible repeat (first | refine blk_drewN ?_ _ | refine blk_drew ?_ | refine blk_alloc ?_ _)); refine blk_put (cs := #[.string ((rd_T44 l0 x4_1).f0), .slice none 0 0, .int .i64 0, .slice none 0 0, .slice none 0 0]) ?_ 1 _ rfl; (with_reducible repeat (first | refine blk_drewN ?_ _ | refine blk_drew ?_ | refine blk_alloc ?_ _)); refine blk_put (cs := #[.string (⟨#[]⟩ : ByteArray), .slice none 0 0, .int .i64 0, .slice none 0 0, .slice none 0 0]) ?_ 0 _ rfl; (with_reducible repeat (first | refine blk_drewN ?_ _ | refine blk_drew ?_ | refine blk_alloc ?_ _)); exact BK19011.out⟩, ⟨by repeat (first | (with_reducible first | exact HB.out | apply below_alloc | apply pw_below_drewN | apply below_drew1 | refine below_set ?_ GE19011.out) | exact HB.out)⟩⟩
     case round =>
      clear H'
      try clear c1
      try clear p1
      try clear q1
      try clear hx1
      try clear p2
      try clear c5
      try clear c19
      try clear p19
      try clear q19
      try clear hx19
      try clear hx19001_0
      try clear hx19001_1
      try clear hx19001_2
      try clear hx19001_3
      try clear hx19001_4
      try clear hx19002_0
      try clear hx19002_1
      try clear hx19002_2
      try clear hx19002_3
      try clear hx19002_4
      try clear hx19003_0
      try clear hx19003_1
      try clear hx19003_2
      try clear hx19003_3
      try clear hx19003_4
      try clear hx19007_0
      try clear hx19007_1
      try clear hx19007_2
      try clear hx19007_3
      try clear hx19007_4
      try clear p19002
      try clear p19003
      try clear p19007
      try clear q19002
      try clear q19003
      try clear q19007
      obtain ⟨x6_2, x19012003_2, u19012003, rfl, HA, HK2, HO_3, HO_19012001, HO_19012003, HO_19012004, BK19011, HB⟩ := hrel
      cases gk with
      | zero => exact absurd HA.out (by simp [tinderref08_Copy.l1])
      | succ k2 =>
       have H := HA.out
       clear HA
       simp only [tinderref08_Copy.l1] at H
       by_cases c20 : 0 ≤ x4_1
       ·rw [if_pos c20] at H
        have c20b0 : decide (0 ≤ x4_1) = true := decide_eq_true c20
        clear c20
        by_cases c21 : x4_1 < (l0.length : Int)
        ·rw [if_pos c21] at H
         have c21b0 : decide (x4_1 < (l0.length : Int)) = true := decide_eq_true c21
         clear c21
         by_cases c22 : x6_2 < (((rd_T44 l0 x4_1).f3).length : Int)
         ·rw [if_pos c22] at H
          have c22b0 : decide (x6_2 < (((rd_T44 l0 x4_1).f3).length : Int)) = true := decide_eq_true c22
          clear c22
          by_cases c23 : 0 ≤ x6_2
          ·rw [if_pos c23] at H
           have c23b0 : decide (0 ≤ x6_2) = true := decide_eq_true c23
           clear c23
           replace H := Option.bind_eq_some_iff.mp H
           obtain ⟨t19017, A240, H⟩ := H
           replace H : (if x19012003_2.length < 3518437208883 then (tinderref08_Copy.l1 k2 l0 x3_1 x4_1 (wrap64 (x6_2 + 1)) ((rd_T44 l0 x4_1).f0) t19004 ((rd_T44 l0 x4_1).f2) (x19012003_2 ++ [(⟨(rd_T53 ((rd_T44 l0 x4_1).f3) x6_2).f0, t19017⟩ : S53)]) t19008) else (none)) = some r := H
           have A24 := Aside0.mk A240
           clear A240
           by_cases c25 : x19012003_2.length < 3518437208883
           ·rw [if_pos c25] at H
            have LMc25 := Aside0.mk c25
            clear c25
            obtain ⟨y19020, hy19020⟩ : ∃ y_ : List (S53), y_ = (x19012003_2 ++ [(⟨(rd_T53 ((rd_T44 l0 x4_1).f3) x6_2).f0, t19017⟩ : S53)]) := ⟨_, rfl⟩
            replace H : (tinderref08_Copy.l1 k2 l0 x3_1 x4_1 (wrap64 (x6_2 + 1)) ((rd_T44 l0 x4_1).f0) t19004 ((rd_T44 l0 x4_1).f2) y19020 t19008) = some r := by first | (rw [hy19020]; with_reducible exact H) | (have H2_ := (Option.bind_some _ _).symm.trans H; rw [hy19020]; with_reducible exact H2_) | (have H2_ := (Option.bind_some _ _).symm.trans H; with_reducible exact H2_) | with_reducible exact H | (rw [hy19020]; exact H) | exact H
            have Ny19020 := Aside0.mk hy19020
            clear hy19020
            have H' := Aside0.mk H
            clear H
            have p19012 : 0 ≤ (x4_1 : Int) := of_decide_eq_true (by first | (with_reducible assumption) | assumption)
            have q19012 : x4_1 < (l0.length : Int) := of_decide_eq_true (by first | (with_reducible assumption) | assumption)
            obtain ⟨ad19012, A19012_1, c19012_1, A19012_3, c19012_3, A19012_4, c19012_4, e19012, hx19012_0, hx19012_1, hx19012_2, hx19012_3, hx19012_4, hl19012_1, hi19012_1, hl19012_3, hi19012_3, hl19012_4, hi19012_4⟩ := at_T44 HR0.out x4_1 p19012 q19012
            obtain rfl : ad19001 = ad19012 := (by injection e19012)
            replace hx19012_0 := (HB.out.cell (World.block_lt_of_cell? w _ hx19012_0)).trans hx19012_0
            replace hx19012_1 := (HB.out.cell (World.block_lt_of_cell? w _ hx19012_1)).trans hx19012_1
            replace hx19012_2 := (HB.out.cell (World.block_lt_of_cell? w _ hx19012_2)).trans hx19012_2
            replace hx19012_3 := (HB.out.cell (World.block_lt_of_cell? w _ hx19012_3)).trans hx19012_3
            replace hx19012_4 := (HB.out.cell (World.block_lt_of_cell? w _ hx19012_4)).trans hx19012_4
            have HR19012_1 := Aside0.mk hi19012_1
            have HC19012_1 := Aside0.mk hl19012_1
            clear hi19012_1 hl19012_1
            have HR19012_3 := Aside0.mk hi19012_3
            have HC19012_3 := Aside0.mk hl19012_3
            clear hi19012_3 hl19012_3
            have HR19012_4 := Aside0.mk hi19012_4
            have HC19012_4 := Aside0.mk hl19012_4
            clear hi19012_4 hl19012_4
            replace p19012 := eq_true p19012
            replace q19012 := eq_true q19012
            try go_wp2
            have n0_ := Aside0.mk (Kd.R_drew HO_3.out)
            have n1_ := Aside0.mk (Kd.R_drew HO_19012001.out)
            have n2_ := Aside0.mk (Kd.S_drew HO_19012003.out)
            have n3_ := Aside0.mk (Kd.R_drew HO_19012004.out)
            have n4_ := Aside0.mk (blk_drew BK19011.out)
            have n5_ := Aside0.mk (below_drew1 HB.out)
            clear HO_3
            clear HO_19012001
            clear HO_19012003
            clear HO_19012004
            clear BK19011
            clear HB
            have HO_3 := n0_
            have HO_19012001 := n1_
            have HO_19012003 := n2_
            have HO_19012004 := n3_
            have BK19011 := n4_
            have HB := n5_
            clear n0_ n1_ n2_ n3_ n4_ n5_
            have p19013 : 0 ≤ (x4_1 : Int) := of_decide_eq_true (by first | (with_reducible assumption) | assumption)
            have q19013 : x4_1 < (l0.length : Int) := of_decide_eq_true (by first | (with_reducible assumption) | assumption)
            obtain ⟨ad19013, A19013_1, c19013_1, A19013_3, c19013_3, A19013_4, c19013_4, e19013, hx19013_0, hx19013_1, hx19013_2, hx19013_3, hx19013_4, hl19013_1, hi19013_1, hl19013_3, hi19013_3, hl19013_4, hi19013_4⟩ := at_T44 HR0.out x4_1 p19013 q19013
            have hw19013_4 := hx19013_4
            have hw19013_3 := hx19013_3
            have hw19013_2 := hx19013_2
            have hw19013_1 := hx19013_1
            have hw19013_0 := hx19013_0
            obtain rfl : ad19001 = ad19013 := (by injection e19013)
            replace hx19013_0 := (HB.out.cell (World.block_lt_of_cell? w _ hx19013_0)).trans hx19013_0
            replace hx19013_1 := (HB.out.cell (World.block_lt_of_cell? w _ hx19013_1)).trans hx19013_1
            replace hx19013_2 := (HB.out.cell (World.block_lt_of_cell? w _ hx19013_2)).trans hx19013_2
            replace hx19013_3 := (HB.out.cell (World.block_lt_of_cell? w _ hx19013_3)).trans hx19013_3
            replace hx19013_4 := (HB.out.cell (World.block_lt_of_cell? w _ hx19013_4)).trans hx19013_4
            have HR19013_1 := Aside0.mk hi19013_1
            have HC19013_1 := Aside0.mk hl19013_1
            clear hi19013_1 hl19013_1
            have HR19013_3 := Aside0.mk hi19013_3
            have HC19013_3 := Aside0.mk hl19013_3
            clear hi19013_3 hl19013_3
            have HR19013_4 := Aside0.mk hi19013_4
            have HC19013_4 := Aside0.mk hl19013_4
            clear hi19013_4 hl19013_4
            replace p19013 := eq_true p19013
            replace q19013 := eq_true q19013
            have p19014 : 0 ≤ (x6_2 : Int) := of_decide_eq_true (by first | (with_reducible assumption) | assumption)
            have q19014 : x6_2 < (((rd_T44 l0 x4_1).f3).length : Int) := of_decide_eq_true (by first | (with_reducible assumption) | assumption)
            obtain ⟨ad19014, A19014_1, c19014_1, e19014, hx19014_0, hx19014_1, hl19014_1, hi19014_1⟩ := at_T53 HR19013_3.out x6_2 p19014 q19014
            have hw19014_1 := hx19014_1
            have hw19014_0 := hx19014_0
            cases e19014
            replace hx19014_0 := (HB.out.cell (World.block_lt_of_cell? w _ hx19014_0)).trans hx19014_0
            replace hx19014_1 := (HB.out.cell (World.block_lt_of_cell? w _ hx19014_1)).trans hx19014_1
            have HR19014_1 := Aside0.mk hi19014_1
            have HC19014_1 := Aside0.mk hl19014_1
            clear hi19014_1 hl19014_1
            replace p19014 := eq_true p19014
            replace q19014 := eq_true q19014
            have p19015 : 0 ≤ (x4_1 : Int) := of_decide_eq_true (by first | (with_reducible assumption) | assumption)
            have q19015 : x4_1 < (l0.length : Int) := of_decide_eq_true (by first | (with_reducible assumption) | assumption)
            obtain ⟨ad19015, A19015_1, c19015_1, A19015_3, c19015_3, A19015_4, c19015_4, e19015, hx19015_0, hx19015_1, hx19015_2, hx19015_3, hx19015_4, hl19015_1, hi19015_1, hl19015_3, hi19015_3, hl19015_4, hi19015_4⟩ := at_T44 HR0.out x4_1 p19015 q19015
            have hw19015_4 := hx19015_4
            have hw19015_3 := hx19015_3
            have hw19015_2 := hx19015_2
            have hw19015_1 := hx19015_1
            have hw19015_0 := hx19015_0
            obtain rfl : ad19001 = ad19015 := (by injection e19015)
            replace hx19015_0 := (HB.out.cell (World.block_lt_of_cell? w _ hx19015_0)).trans hx19015_0
            replace hx19015_1 := (HB.out.cell (World.block_lt_of_cell? w _ hx19015_1)).trans hx19015_1
            replace hx19015_2 := (HB.out.cell (World.block_lt_of_cell? w _ hx19015_2)).trans hx19015_2
            replace hx19015_3 := (HB.out.cell (World.block_lt_of_cell? w _ hx19015_3)).trans hx19015_3
            replace hx19015_4 := (HB.out.cell (World.block_lt_of_cell? w _ hx19015_4)).trans hx19015_4
            have HR19015_1 := Aside0.mk hi19015_1
            have HC19015_1 := Aside0.mk hl19015_1
            clear hi19015_1 hl19015_1
            have HR19015_3 := Aside0.mk hi19015_3
            have HC19015_3 := Aside0.mk hl19015_3
            clear hi19015_3 hl19015_3
            have HR19015_4 := Aside0.mk hi19015_4
            have HC19015_4 := Aside0.mk hl19015_4
            clear hi19015_4 hl19015_4
            replace p19015 := eq_true p19015
            replace q19015 := eq_true q19015
            have ea_ := Option.some.inj (hx19013_1.symm.trans hx19015_1)
            injection ea_ with ea_ en_ ec_
            subst ea_
            subst ec_
            clear en_
            have ea_ := Option.some.inj (hx19013_3.symm.trans hx19015_3)
            injection ea_ with ea_ en_ ec_
            subst ea_
            subst ec_
            clear en_
            have ea_ := Option.some.inj (hx19013_4.symm.trans hx19015_4)
            injection ea_ with ea_ en_ ec_
            subst ea_
            subst ec_
            clear en_
            have p19016 : 0 ≤ (x6_2 : Int) := of_decide_eq_true (by first | (with_reducible assumption) | assumption)
            have q19016 : x6_2 < (((rd_T44 l0 x4_1).f3).length : Int) := of_decide_eq_true (by first | (with_reducible assumption) | assumption)
            obtain ⟨ad19016, A19016_1, c19016_1, e19016, hx19016_0, hx19016_1, hl19016_1, hi19016_1⟩ := at_T53 HR19015_3.out x6_2 p19016 q19016
            have hw19016_1 := hx19016_1
            have hw19016_0 := hx19016_0
            cases e19016
            replace hx19016_0 := (HB.out.cell (World.block_lt_of_cell? w _ hx19016_0)).trans hx19016_0
            replace hx19016_1 := (HB.out.cell (World.block_lt_of_cell? w _ hx19016_1)).trans hx19016_1
            have HR19016_1 := Aside0.mk hi19016_1
            have HC19016_1 := Aside0.mk hl19016_1
            clear hi19016_1 hl19016_1
            replace p19016 := eq_true p19016
            replace q19016 := eq_true q19016
            refine start_ (n := 26) (S := fun w' => w'.cell? ⟨gb19011, 0, none⟩ = some (.string ((rd_T44 l0 x4_1).f0)) ∧ w'.cell? ⟨gb19011, 1, none⟩ = some (.slice Ao14 t19004.length co14) ∧ w'.cell? ⟨gb19011, 2, none⟩ = some (.int .i64 ((rd_T44 l0 x4_1).f2)) ∧ w'.cell? ⟨gb19011, 3, none⟩ = some (u19012003) ∧ w'.cell? ⟨gb19011, 4, none⟩ = some (.slice Ao13 t19008.length co13) ∧ w'.cell? (ad19001.add ((x4_1).toNat * 5)) = some (.string ((rd_T44 l0 x4_1).f0)) ∧ w'.cell? ⟨(ad19001.add ((x4_1).toNat * 5)).block, (ad19001.add ((x4_1).toNat * 5)).off + 1, none⟩ = some (.slice A19013_1 ((rd_T44 l0 x4_1).f1).length c19013_1) ∧ w'.cell? ⟨(ad19001.add ((x4_1).toNat * 5)).block, (ad19001.add ((x4_1).toNat * 5)).off + 2, none⟩ = some (.int .i64 ((rd_T44 l0 x4_1).f2)) ∧ w'.cell? ⟨(ad19001.add ((x4_1).toNat * 5)).block, (ad19001.add ((x4_1).toNat * 5)).off + 3, none⟩ = some (.slice (some ad19014) ((rd_T44 l0 x4_1).f3).length c19013_3) ∧ w'.cell? ⟨(ad19001.add ((x4_1).toNat * 5)).block, (ad19001.add ((x4_1).toNat * 5)).off + 4, none⟩ = some (.slice A19013_4 ((rd_T44 l0 x4_1).f4).length c19013_4) ∧ w'.cell? (ad19014.add ((x6_2).toNat * 2)) = some (.string ((rd_T53 ((rd_T44 l0 x4_1).f3) x6_2).f0)) ∧ w'.cell? ⟨(ad19014.add ((x6_2).toNat * 2)).block, (ad19014.add ((x6_2).toNat * 2)).off + 1, none⟩ = some (.slice A19014_1 ((rd_T53 ((rd_T44 l0 x4_1).f3) x6_2).f1).length c19014_1) ∧ w'.cell? (ad19001.add ((x4_1).toNat * 5)) = some (.string ((rd_T44 l0 x4_1).f0)) ∧ w'.cell? ⟨(ad19001.add ((x4_1).toNat * 5)).block, (ad19001.add ((x4_1).toNat * 5)).off + 1, none⟩ = some (.slice A19013_1 ((rd_T44 l0 x4_1).f1).length c19013_1) ∧ w'.cell? ⟨(ad19001.add ((x4_1).toNat * 5)).block, (ad19001.add ((x4_1).toNat * 5)).off + 2, none⟩ = some (.int .i64 ((rd_T44 l0 x4_1).f2)) ∧ w'.cell? ⟨(ad19001.add ((x4_1).toNat * 5)).block, (ad19001.add ((x4_1).toNat * 5)).off + 3, none⟩ = some (.slice (some ad19014) ((rd_T44 l0 x4_1).f3).length c19013_3) ∧ w'.cell? ⟨(ad19001.add ((x4_1).toNat * 5)).block, (ad19001.add ((x4_1).toNat * 5)).off + 4, none⟩ = some (.slice A19013_4 ((rd_T44 l0 x4_1).f4).length c19013_4) ∧ w'.cell? (ad19014.add ((x6_2).toNat * 2)) = some (.string ((rd_T53 ((rd_T44 l0 x4_1).f3) x6_2).f0)) ∧ w'.cell? ⟨(ad19014.add ((x6_2).toNat * 2)).block, (ad19014.add ((x6_2).toNat * 2)).off + 1, none⟩ = some (.slice A19016_1 ((rd_T53 ((rd_T44 l0 x4_1).f3) x6_2).f1).length c19016_1)) (ds := [25]) #[false, false, false, false, false, false, false, false, false, false, false, false, false, false, false, false, false, false, false, false, false, false, false, false, false, false] (by kernel_rfl) rfl rfl ⟨(blk_cell BK19011.out 0).trans rfl, (blk_cell BK19011.out 1).trans rfl, (blk_cell BK19011.out 2).trans rfl, (blk_cell BK19011.out 3).trans rfl, (blk_cell BK19011.out 4).trans rfl, ((HB.out.cell (World.block_lt_of_cell? w _ hw19013_0)).trans hw19013_0), ((HB.out.cell (World.block_lt_of_cell? w _ hw19013_1)).trans hw19013_1), ((HB.out.cell (World.block_lt_of_cell? w _ hw19013_2)).trans hw19013_2), ((HB.out.cell (World.block_lt_of_cell? w _ hw19013_3)).trans hw19013_3), ((HB.out.cell (World.block_lt_of_cell? w _ hw19013_4)).trans hw19013_4), ((HB.out.cell (World.block_lt_of_cell? w _ hw19014_0)).trans hw19014_0), ((HB.out.cell (World.block_lt_of_cell? w _ hw19014_1)).trans hw19014_1), ((HB.out.cell (World.block_lt_of_cell? w _ hw19015_0)).trans hw19015_0), ((HB.out.cell (World.block_lt_of_cell? w _ hw19015_1)).trans hw19015_1), ((HB.out.cell (World.block_lt_of_cell? w _ hw19015_2)).trans hw19015_2), ((HB.out.cell (World.block_lt_of_cell? w _ hw19015_3)).trans hw19015_3), ((HB.out.cell (World.block_lt_of_cell? w _ hw19015_4)).trans hw19015_4), ((HB.out.cell (World.block_lt_of_cell? w _ hw19016_0)).trans hw19016_0), ((HB.out.cell (World.block_lt_of_cell? w _ hw19016_1)).trans hw19016_1)⟩ (fun hHeld => ?_); refine with_tabW tinderref08_Copy.tab9 tinderref08_Copy.bits9 (fun HT_ HW_ => ?_)
            generalize wr.drew = w26 at HO_3 HO_19012001 HO_19012003 HO_19012004 BK19011 HB HR19013_1 HR19013_3 HR19013_4 HR19014_1 HR19015_1 HR19015_3 HR19015_4 HR19016_1 hx19013_0 hx19013_1 hx19013_2 hx19013_3 hx19013_4 hx19014_0 hx19014_1 hx19015_0 hx19015_1 hx19015_2 hx19015_3 hx19015_4 hx19016_0 hx19016_1 hHeld ⊢
            refine pure_ (i := 0) (N := some 46) (v := ?_) (a' := ?_) #[true, false, false, false, false, false, false, false, false, false, false, false, false, false, false, false, false, false, false, false, false, false, false, false, false, false] rfl rfl (any_of HT_.out (by kernel_rfl)) (fun _ _ _ h => h) (Or.inl ⟨by rfl, ?_⟩) ?_ ?_
            rotate_left
            ·intro w'
             go_simp
             with_reducible rfl
            rotate_left
            ·simp only [Act.put, List.setIfInBounds_toArray, List.set_cons_zero, List.set_cons_succ, i64_w, i32_w]
             rfl
            refine pure_ (i := 2) (N := some 48) (v := ?_) (a' := ?_) #[true, false, true, false, false, false, false, false, false, false, false, false, false, false, false, false, false, false, false, false, false, false, false, false, false, false] rfl rfl (any_of HT_.out (by kernel_rfl)) (fun _ _ _ h => h) (Or.inl ⟨by rfl, ?_⟩) ?_ ?_
            rotate_left
            ·intro w'
             go_simp
             with_reducible rfl
            rotate_left
            ·simp only [Act.put, List.setIfInBounds_toArray, List.set_cons_zero, List.set_cons_succ, i64_w, i32_w]
             rfl
            refine pure_ (i := 3) (N := some 49) (v := ?_) (a' := ?_) #[true, false, true, true, false, false, false, false, false, false, false, false, false, false, false, false, false, false, false, false, false, false, false, false, false, false] rfl rfl (any_of HT_.out (by kernel_rfl)) (fun _ _ _ h => h) (Or.inl ⟨by rfl, ?_⟩) ?_ ?_
            rotate_left
            ·intro w'
             go_simp
             with_reducible rfl
            rotate_left
            ·simp only [Act.put, List.setIfInBounds_toArray, List.set_cons_zero, List.set_cons_succ, i64_w, i32_w]
             rfl
            refine pure_ (i := 4) (N := some 50) (v := ?_) (a' := ?_) #[true, false, true, true, true, false, false, false, false, false, false, false, false, false, false, false, false, false, false, false, false, false, false, false, false, false] rfl rfl (any_of HT_.out (by kernel_rfl)) (fun _ _ _ h => h) (Or.inl ⟨by rfl, ?_⟩) ?_ ?_
            rotate_left
            ·intro w'
             go_simp
             with_reducible rfl
            rotate_left
            ·simp only [Act.put, List.setIfInBounds_toArray, List.set_cons_zero, List.set_cons_succ, i64_w, i32_w]
             rfl
            refine pure_ (i := 5) (N := some 51) (v := ?_) (a' := ?_) #[true, false, true, true, true, true, false, false, false, false, false, false, false, false, false, false, false, false, false, false, false, false, false, false, false, false] rfl rfl (any_of HT_.out (by kernel_rfl)) (fun _ _ _ h => h) (Or.inl ⟨by rfl, ?_⟩) ?_ ?_
            rotate_left
            ·intro w'
             go_simp
             with_reducible rfl
            rotate_left
            ·simp only [Act.put, List.setIfInBounds_toArray, List.set_cons_zero, List.set_cons_succ, i64_w, i32_w]
             rfl
            refine pure_ (i := 7) (N := some 53) (v := ?_) (a' := ?_) #[true, false, true, true, true, true, false, true, false, false, false, false, false, false, false, false, false, false, false, false, false, false, false, false, false, false] rfl rfl (any_of HT_.out (by kernel_rfl)) (fun _ _ _ h => h) (Or.inl ⟨by rfl, ?_⟩) ?_ ?_
            rotate_left
            ·intro w'
             go_simp
             with_reducible rfl
            rotate_left
            ·simp only [Act.put, List.setIfInBounds_toArray, List.set_cons_zero, List.set_cons_succ, i64_w, i32_w]
             rfl
            refine pure_ (i := 11) (N := some 57) (v := ?_) (a' := ?_) #[true, false, true, true, true, true, false, true, false, false, false, true, false, false, false, false, false, false, false, false, false, false, false, false, false, false] rfl rfl (any_of HT_.out (by kernel_rfl)) (fun _ _ _ h => h) (Or.inl ⟨by rfl, ?_⟩) ?_ ?_
            rotate_left
            ·intro w'
             go_simp
             with_reducible rfl
            rotate_left
            ·simp only [Act.put, List.setIfInBounds_toArray, List.set_cons_zero, List.set_cons_succ, i64_w, i32_w]
             rfl
            refine pure_ (i := 12) (N := some 58) (v := ?_) (a' := ?_) #[true, false, true, true, true, true, false, true, false, false, false, true, true, false, false, false, false, false, false, false, false, false, false, false, false, false] rfl rfl (any_of HT_.out (by kernel_rfl)) (fun _ _ _ h => h) (Or.inl ⟨by rfl, ?_⟩) ?_ ?_
            rotate_left
            ·intro w'
             go_simp
             with_reducible rfl
            rotate_left
            ·simp only [Act.put, List.setIfInBounds_toArray, List.set_cons_zero, List.set_cons_succ, i64_w, i32_w]
             rfl
            refine pure_ (i := 13) (N := some 59) (v := ?_) (a' := ?_) #[true, false, true, true, true, true, false, true, false, false, false, true, true, true, false, false, false, false, false, false, false, false, false, false, false, false] rfl rfl (any_of HT_.out (by kernel_rfl)) (fun _ _ _ h => h) (Or.inl ⟨by rfl, ?_⟩) ?_ ?_
            rotate_left
            ·intro w'
             go_simp
             with_reducible rfl
            rotate_left
            ·simp only [Act.put, List.setIfInBounds_toArray, List.set_cons_zero, List.set_cons_succ, i64_w, i32_w]
             rfl
            refine pure_ (i := 14) (N := some 60) (v := ?_) (a' := ?_) #[true, false, true, true, true, true, false, true, false, false, false, true, true, true, true, false, false, false, false, false, false, false, false, false, false, false] rfl rfl (any_of HT_.out (by kernel_rfl)) (fun _ _ _ h => h) (Or.inl ⟨by rfl, ?_⟩) ?_ ?_
            rotate_left
            ·intro w'
             go_simp
             with_reducible rfl
            rotate_left
            ·simp only [Act.put, List.setIfInBounds_toArray, List.set_cons_zero, List.set_cons_succ, i64_w, i32_w]
             rfl
            refine pure_ (i := 16) (N := some 62) (v := ?_) (a' := ?_) #[true, false, true, true, true, true, false, true, false, false, false, true, true, true, true, false, true, false, false, false, false, false, false, false, false, false] rfl rfl (any_of HT_.out (by kernel_rfl)) (fun _ _ _ h => h) (Or.inl ⟨by rfl, ?_⟩) ?_ ?_
            rotate_left
            ·intro w'
             go_simp
             with_reducible rfl
            rotate_left
            ·simp only [Act.put, List.setIfInBounds_toArray, List.set_cons_zero, List.set_cons_succ, i64_w, i32_w]
             rfl
            refine take_ (i := 1) (N := some 47) (v := ?_) (a' := ?_) #[true, true, true, true, true, true, false, true, false, false, false, true, true, true, true, false, true, false, false, false, false, false, false, false, false, false] rfl rfl (take_ofW HT_.out HW_.out (by kernel_rfl)) (fun _ _ _ h => h) (Or.inl ⟨by rfl, ?_⟩) hHeld ?_ ?_
            rotate_left
            ·rintro w' ⟨s0, s1, s2, s3, s4, s5, s6, s7, s8, s9, s10, s11, s12, s13, s14, s15, s16, s17, s18⟩
             go_simp
             with_reducible rfl
            rotate_left
            ·simp only [Act.put, List.setIfInBounds_toArray, List.set_cons_zero, List.set_cons_succ, i64_w, i32_w]
             rfl
            refine take_ (i := 6) (N := some 52) (v := ?_) (a' := ?_) #[true, true, true, true, true, true, true, true, false, false, false, true, true, true, true, false, true, false, false, false, false, false, false, false, false, false] rfl rfl (take_ofW HT_.out HW_.out (by kernel_rfl)) (fun _ _ _ h => h) (Or.inl ⟨by rfl, ?_⟩) hHeld ?_ ?_
            rotate_left
            ·rintro w' ⟨s0, s1, s2, s3, s4, s5, s6, s7, s8, s9, s10, s11, s12, s13, s14, s15, s16, s17, s18⟩
             go_simp
             with_reducible rfl
            rotate_left
            ·simp only [Act.put, List.setIfInBounds_toArray, List.set_cons_zero, List.set_cons_succ, i64_w, i32_w]
             rfl
            refine pure_ (i := 8) (N := some 54) (v := ?_) (a' := ?_) #[true, true, true, true, true, true, true, true, true, false, false, true, true, true, true, false, true, false, false, false, false, false, false, false, false, false] rfl rfl (any_of HT_.out (by kernel_rfl)) (fun _ _ _ h => h) (Or.inl ⟨by rfl, ?_⟩) ?_ ?_
            rotate_left
            ·intro w'
             go_simp
             with_reducible rfl
            rotate_left
            ·simp only [Act.put, List.setIfInBounds_toArray, List.set_cons_zero, List.set_cons_succ, i64_w, i32_w]
             rfl
            refine pure_ (i := 9) (N := some 55) (v := ?_) (a' := ?_) #[true, true, true, true, true, true, true, true, true, true, false, true, true, true, true, false, true, false, false, false, false, false, false, false, false, false] rfl rfl (any_of HT_.out (by kernel_rfl)) (fun _ _ _ h => h) (Or.inl ⟨by rfl, ?_⟩) ?_ ?_
            rotate_left
            ·intro w'
             go_simp
             with_reducible rfl
            rotate_left
            ·simp only [Act.put, List.setIfInBounds_toArray, List.set_cons_zero, List.set_cons_succ, i64_w, i32_w]
             rfl
            refine take_ (i := 10) (N := some 56) (v := ?_) (a' := ?_) #[true, true, true, true, true, true, true, true, true, true, true, true, true, true, true, false, true, false, false, false, false, false, false, false, false, false] rfl rfl (take_ofW HT_.out HW_.out (by kernel_rfl)) (fun _ _ _ h => h) (Or.inl ⟨by rfl, ?_⟩) hHeld ?_ ?_
            rotate_left
            ·rintro w' ⟨s0, s1, s2, s3, s4, s5, s6, s7, s8, s9, s10, s11, s12, s13, s14, s15, s16, s17, s18⟩
             go_simp
             with_reducible rfl
            rotate_left
            ·simp only [Act.put, List.setIfInBounds_toArray, List.set_cons_zero, List.set_cons_succ, i64_w, i32_w]
             rfl
            refine take_ (i := 15) (N := some 61) (v := ?_) (a' := ?_) #[true, true, true, true, true, true, true, true, true, true, true, true, true, true, true, true, true, false, false, false, false, false, false, false, false, false] rfl rfl (take_ofW HT_.out HW_.out (by kernel_rfl)) (fun _ _ _ h => h) (Or.inl ⟨by rfl, ?_⟩) hHeld ?_ ?_
            rotate_left
            ·rintro w' ⟨s0, s1, s2, s3, s4, s5, s6, s7, s8, s9, s10, s11, s12, s13, s14, s15, s16, s17, s18⟩
             go_simp
             with_reducible rfl
            rotate_left
            ·simp only [Act.put, List.setIfInBounds_toArray, List.set_cons_zero, List.set_cons_succ, i64_w, i32_w]
             rfl
            refine pure_ (i := 17) (N := some 63) (v := ?_) (a' := ?_) #[true, true, true, true, true, true, true, true, true, true, true, true, true, true, true, true, true, true, false, false, false, false, false, false, false, false] rfl rfl (any_of HT_.out (by kernel_rfl)) (fun _ _ _ h => h) (Or.inl ⟨by rfl, ?_⟩) ?_ ?_
            rotate_left
            ·intro w'
             go_simp
             with_reducible rfl
            rotate_left
            ·simp only [Act.put, List.setIfInBounds_toArray, List.set_cons_zero, List.set_cons_succ, i64_w, i32_w]
             rfl
            refine pure_ (i := 18) (N := some 64) (v := ?_) (a' := ?_) #[true, true, true, true, true, true, true, true, true, true, true, true, true, true, true, true, true, true, true, false, false, false, false, false, false, false] rfl rfl (any_of HT_.out (by kernel_rfl)) (fun _ _ _ h => h) (Or.inl ⟨by rfl, ?_⟩) ?_ ?_
            rotate_left
            ·intro w'
             go_simp
             with_reducible rfl
            rotate_left
            ·simp only [Act.put, List.setIfInBounds_toArray, List.set_cons_zero, List.set_cons_succ, i64_w, i32_w]
             rfl
            refine take_ (i := 19) (N := some 65) (v := ?_) (a' := ?_) #[true, true, true, true, true, true, true, true, true, true, true, true, true, true, true, true, true, true, true, true, false, false, false, false, false, false] rfl rfl (take_ofW HT_.out HW_.out (by kernel_rfl)) (fun _ _ _ h => h) (Or.inl ⟨by rfl, ?_⟩) hHeld ?_ ?_
            rotate_left
            ·rintro w' ⟨s0, s1, s2, s3, s4, s5, s6, s7, s8, s9, s10, s11, s12, s13, s14, s15, s16, s17, s18⟩
             go_simp
             with_reducible rfl
            rotate_left
            ·simp only [Act.put, List.setIfInBounds_toArray, List.set_cons_zero, List.set_cons_succ, i64_w, i32_w]
             rfl
            refine one_ (i := 20) (N := some 66) #[true, true, true, true, true, true, true, true, true, true, true, true, true, true, true, true, true, true, true, true, true, false, false, false, false, false] rfl rfl (one_of HT_.out (by kernel_rfl)) (by decide) (fun K hK => ?_)
            refine goes_ Tryd.func52 (by kernel_rfl) rfl #[.slice A19014_1 ((rd_T53 ((rd_T44 l0 x4_1).f3) x6_2).f1).length c19014_1] (by rfl) rfl rfl (by (try simp only [List.map_toArray, List.map_cons, List.map_nil]); first | done | rfl | (simp only [List.length_drop, List.length_take]; rfl)) ?_
            with_reducible refine (tinderref04_Copy.calls _ _ ((rd_T53 ((rd_T44 l0 x4_1).f3) x6_2).f1) t19017 _ ?side1 ?side2 A24.out).mono ?_
            (case side1 => repeat (first | exact (Kd.C_below HR19014_1.out HB.out) | (with_reducible refine Kd.C_alloc ?_ _) | (with_reducible refine Kd.C_drewN ?_ _) | (with_reducible refine Kd.C_drew ?_)))
            (case side2 => exact HC19014_1.out)
            rintro e w27 ⟨v19018, rfl, ho0, hb⟩
            refine ⟨_, rfl, ?_⟩
            have n0_ := Aside0.mk (Kd.R_elder' (by (with_reducible repeat (first | apply Kd.R_alloc | apply Kd.R_drewN | apply Kd.R_drew)); exact HO_3.out) (Kd.R_base ho0) hb)
            have n1_ := Aside0.mk (Kd.R_below (by (with_reducible repeat (first | apply Kd.R_alloc | apply Kd.R_drewN | apply Kd.R_drew)); exact HO_19012001.out) hb)
            have n2_ := Aside0.mk (Kd.S_elder' (by (with_reducible repeat (first | apply Kd.S_alloc | apply Kd.S_drewN | apply Kd.S_drew)); exact HO_19012003.out) (Kd.R_base ho0) hb)
            have n3_ := Aside0.mk (Kd.R_below (by (with_reducible repeat (first | apply Kd.R_alloc | apply Kd.R_drewN | apply Kd.R_drew)); exact HO_19012004.out) hb)
            have n4_ := Aside0.mk (Kd.R_lower ho0 (below_size (by repeat (first | (with_reducible first | exact HB.out | apply below_alloc | apply pw_below_drewN | apply below_drew1 | refine below_set ?_ GE19011.out) | exact HB.out))))
            have n5_ := Aside0.mk (blk_below (g := gb19011) (o := .cells #[.string ((rd_T44 l0 x4_1).f0), .slice Ao14 t19004.length co14, .int .i64 ((rd_T44 l0 x4_1).f2), u19012003, .slice Ao13 t19008.length co13] 44 (0, 0)) (by (with_reducible repeat (first | refine blk_drewN ?_ _ | refine blk_drew ?_ | refine blk_alloc ?_ _)); exact BK19011.out) hb)
            have n6_ := Aside0.mk (below_step (by repeat (first | (with_reducible first | exact HB.out | apply below_alloc | apply pw_below_drewN | apply below_drew1 | refine below_set ?_ GE19011.out) | exact HB.out)) hb)
            clear HO_3
            clear HO_19012001
            clear HO_19012003
            clear HO_19012004
            clear BK19011
            clear HB
            have HO_3 := n0_
            have HO_19012001 := n1_
            have HO_19012003 := n2_
            have HO_19012004 := n3_
            have HO19019 := n4_
            have BK19011 := n5_
            have HB := n6_
            clear n0_ n1_ n2_ n3_ n4_ n5_ n6_
            (try clear hb)
            (try clear hb2)
            (try clear hk)
            (try clear hi)
            (try clear ho0)
            obtain ⟨Ao28, co28, eo28⟩ := Kd.R_slice HO19019.out
            (first | subst eo28 | (injection eo28 with f1_ f2_ f3_; have f4_ := f1_.symm; have f5_ := f3_.symm; clear f1_ f2_ f3_; subst f4_; subst f5_))
            refine hK.out _ _ ⟨(blk_cell BK19011.out 0).trans rfl, (blk_cell BK19011.out 1).trans rfl, (blk_cell BK19011.out 2).trans rfl, (blk_cell BK19011.out 3).trans rfl, (blk_cell BK19011.out 4).trans rfl, ((HB.out.cell (World.block_lt_of_cell? w _ hw19013_0)).trans hw19013_0), ((HB.out.cell (World.block_lt_of_cell? w _ hw19013_1)).trans hw19013_1), ((HB.out.cell (World.block_lt_of_cell? w _ hw19013_2)).trans hw19013_2), ((HB.out.cell (World.block_lt_of_cell? w _ hw19013_3)).trans hw19013_3), ((HB.out.cell (World.block_lt_of_cell? w _ hw19013_4)).trans hw19013_4), ((HB.out.cell (World.block_lt_of_cell? w _ hw19014_0)).trans hw19014_0), ((HB.out.cell (World.block_lt_of_cell? w _ hw19014_1)).trans hw19014_1), ((HB.out.cell (World.block_lt_of_cell? w _ hw19015_0)).trans hw19015_0), ((HB.out.cell (World.block_lt_of_cell? w _ hw19015_1)).trans hw19015_1), ((HB.out.cell (World.block_lt_of_cell? w _ hw19015_2)).trans hw19015_2), ((HB.out.cell (World.block_lt_of_cell? w _ hw19015_3)).trans hw19015_3), ((HB.out.cell (World.block_lt_of_cell? w _ hw19015_4)).trans hw19015_4), ((HB.out.cell (World.block_lt_of_cell? w _ hw19016_0)).trans hw19016_0), ((HB.out.cell (World.block_lt_of_cell? w _ hw19016_1)).trans hw19016_1)⟩ (fun hHeld => ?_)
            clear hK K
            refine norm_ (a' := ?_) ?_ ?_
            rotate_left
            ·show Act.put _ (some 66) _ = _
             simp only [Act.put, List.setIfInBounds_toArray, List.set_cons_zero, List.set_cons_succ, i64_w, i32_w]
             rfl
            refine pure_ (i := 21) (N := some 67) (v := ?_) (a' := ?_) #[true, true, true, true, true, true, true, true, true, true, true, true, true, true, true, true, true, true, true, true, true, true, false, false, false, false] rfl rfl (any_of HT_.out (by kernel_rfl)) (fun _ _ _ h => h) (Or.inl ⟨by rfl, ?_⟩) ?_ ?_
            rotate_left
            ·intro w'
             go_simp
             with_reducible rfl
            rotate_left
            ·simp only [Act.put, List.setIfInBounds_toArray, List.set_cons_zero, List.set_cons_succ, i64_w, i32_w]
             rfl
            refine one_ (i := 22) (N := some 68) #[true, true, true, true, true, true, true, true, true, true, true, true, true, true, true, true, true, true, true, true, true, true, true, false, false, false] rfl rfl (one_of HT_.out (by kernel_rfl)) (by decide) (fun K hK => ?_)
            refine value_ (w1 := ?_) (v := ?_) (by rfl) rfl ?_ ?_
            rotate_left 2
            ·go_simp
             constructor
             ·rfl
             ·rfl
            refine hK.out _ _ ⟨(blk_cell (blk_alloc BK19011.out _) 0).trans rfl, (blk_cell (blk_alloc BK19011.out _) 1).trans rfl, (blk_cell (blk_alloc BK19011.out _) 2).trans rfl, (blk_cell (blk_alloc BK19011.out _) 3).trans rfl, (blk_cell (blk_alloc BK19011.out _) 4).trans rfl, (World.cell?_alloc_lt _ _ _ (World.block_lt_of_cell? _ _ (((HB.out.cell (World.block_lt_of_cell? w _ hw19013_0)).trans hw19013_0)))).trans (((HB.out.cell (World.block_lt_of_cell? w _ hw19013_0)).trans hw19013_0)), (World.cell?_alloc_lt _ _ _ (World.block_lt_of_cell? _ _ (((HB.out.cell (World.block_lt_of_cell? w _ hw19013_1)).trans hw19013_1)))).trans (((HB.out.cell (World.block_lt_of_cell? w _ hw19013_1)).trans hw19013_1)), (World.cell?_alloc_lt _ _ _ (World.block_lt_of_cell? _ _ (((HB.out.cell (World.block_lt_of_cell? w _ hw19013_2)).trans hw19013_2)))).trans (((HB.out.cell (World.block_lt_of_cell? w _ hw19013_2)).trans hw19013_2)), (World.cell?_alloc_lt _ _ _ (World.block_lt_of_cell? _ _ (((HB.out.cell (World.block_lt_of_cell? w _ hw19013_3)).trans hw19013_3)))).trans (((HB.out.cell (World.block_lt_of_cell? w _ hw19013_3)).trans hw19013_3)), (World.cell?_alloc_lt _ _ _ (World.block_lt_of_cell? _ _ (((HB.out.cell (World.block_lt_of_cell? w _ hw19013_4)).trans hw19013_4)))).trans (((HB.out.cell (World.block_lt_of_cell? w _ hw19013_4)).trans hw19013_4)), (World.cell?_alloc_lt _ _ _ (World.block_lt_of_cell? _ _ (((HB.out.cell (World.block_lt_of_cell? w _ hw19014_0)).trans hw19014_0)))).trans (((HB.out.cell (World.block_lt_of_cell? w _ hw19014_0)).trans hw19014_0)), (World.cell?_alloc_lt _ _ _ (World.block_lt_of_cell? _ _ (((HB.out.cell (World.block_lt_of_cell? w _ hw19014_1)).trans hw19014_1)))).trans (((HB.out.cell (World.block_lt_of_cell? w _ hw19014_1)).trans hw19014_1)), (World.cell?_alloc_lt _ _ _ (World.block_lt_of_cell? _ _ (((HB.out.cell (World.block_lt_of_cell? w _ hw19015_0)).trans hw19015_0)))).trans (((HB.out.cell (World.block_lt_of_cell? w _ hw19015_0)).trans hw19015_0)), (World.cell?_alloc_lt _ _ _ (World.block_lt_of_cell? _ _ (((HB.out.cell (World.block_lt_of_cell? w _ hw19015_1)).trans hw19015_1)))).trans (((HB.out.cell (World.block_lt_of_cell? w _ hw19015_1)).trans hw19015_1)), (World.cell?_alloc_lt _ _ _ (World.block_lt_of_cell? _ _ (((HB.out.cell (World.block_lt_of_cell? w _ hw19015_2)).trans hw19015_2)))).trans (((HB.out.cell (World.block_lt_of_cell? w _ hw19015_2)).trans hw19015_2)), (World.cell?_alloc_lt _ _ _ (World.block_lt_of_cell? _ _ (((HB.out.cell (World.block_lt_of_cell? w _ hw19015_3)).trans hw19015_3)))).trans (((HB.out.cell (World.block_lt_of_cell? w _ hw19015_3)).trans hw19015_3)), (World.cell?_alloc_lt _ _ _ (World.block_lt_of_cell? _ _ (((HB.out.cell (World.block_lt_of_cell? w _ hw19015_4)).trans hw19015_4)))).trans (((HB.out.cell (World.block_lt_of_cell? w _ hw19015_4)).trans hw19015_4)), (World.cell?_alloc_lt _ _ _ (World.block_lt_of_cell? _ _ (((HB.out.cell (World.block_lt_of_cell? w _ hw19016_0)).trans hw19016_0)))).trans (((HB.out.cell (World.block_lt_of_cell? w _ hw19016_0)).trans hw19016_0)), (World.cell?_alloc_lt _ _ _ (World.block_lt_of_cell? _ _ (((HB.out.cell (World.block_lt_of_cell? w _ hw19016_1)).trans hw19016_1)))).trans (((HB.out.cell (World.block_lt_of_cell? w _ hw19016_1)).trans hw19016_1))⟩ (fun hHeld => ?_)
            clear hK K
            refine norm_ (a' := ?_) ?_ ?_
            rotate_left
            ·show Act.put _ (some 68) _ = _
             simp only [Act.put, List.setIfInBounds_toArray, List.set_cons_zero, List.set_cons_succ, i64_w, i32_w]
             rfl
            refine one_ (i := 23) (N := some 69) #[true, true, true, true, true, true, true, true, true, true, true, true, true, true, true, true, true, true, true, true, true, true, true, true, false, false] rfl rfl (one_of HT_.out (by kernel_rfl)) (by decide) (fun K hK => ?_)
            refine Kd.S_append_step k53 (w0 := w) w.heap.size (by rfl) (.tmp 47) (.tmp 68) 42 53 (.agg #[(.string ⟨#[]⟩), (.slice none 0 0)]) 40 rfl Tryd.underlying42 info53 rfl (by decide) (by omega) u19012003 x19012003_2 (⟨(rd_T53 ((rd_T44 l0 x4_1).f3) x6_2).f0, t19017⟩ : S53) [.string ((rd_T53 ((rd_T44 l0 x4_1).f3) x6_2).f0), .slice Ao28 t19017.length co28] (fun _ => True) (fun k_ => some k_ = (.slice Ao28 t19017.length co28 : Value).ownBlock) rfl rfl ?aP (fun k_ hk_ => ((Kd.R_mono (ok' := fun k_ => ((fun _ => True)) k_ ∧ some k_ ≠ (u19012003 : Value).ownBlock) (Kd.R_apart' (HO19019.out) (Kd.S_typed HO_19012003.out) (by decide)) (fun k_ hk => ⟨trivial, hk.2⟩))).1 k_ hk_.symm) ?aF ?aO ?aB ?aS ?aL ?_
            (case aP => exact k53_mkM _ _ _ (⟨(rd_T53 ((rd_T44 l0 x4_1).f3) x6_2).f0, t19017⟩ : S53) (Kd.R_mono (Kd.R_tight rfl (Kd.R_mono (ok' := fun k_ => ((fun _ => True)) k_ ∧ some k_ ≠ (u19012003 : Value).ownBlock) (Kd.R_apart' (HO19019.out) (Kd.S_typed HO_19012003.out) (by decide)) (fun k_ hk => ⟨trivial, hk.2⟩))) (fun _ h_ => h_)))
            (case aB => exact (by repeat (first | (with_reducible first | exact HB.out | apply below_alloc | apply pw_below_drewN | apply below_drew1 | refine below_set ?_ GE19011.out) | exact HB.out)))
            (case aF => exact (fun _ _ => trivial))
            (case aO => exact (by (with_reducible repeat (first | apply Kd.S_alloc | apply Kd.S_drewN | apply Kd.S_drew)); exact Kd.S_mono HO_19012003.out (fun k_ hk => ⟨trivial, fun e_ => hk.2 e_⟩)))
            (case aS => exact (below_size (by repeat (first | (with_reducible first | exact HB.out | apply below_alloc | apply pw_below_drewN | apply below_drew1 | refine below_set ?_ GE19011.out) | exact HB.out))))
            (case aL => have := LMc25.out; omega)
            intro v19021 w29 ho hb hg hat
            rw [← Ny19020.out] at ho
            have n0_ := Aside0.mk (Kd.R_after (ok := (fun k_ => some k_ ≠ (.slice Ao14 t19004.length co14 : Value).ownBlock ∧ some k_ ≠ (.slice Ao13 t19008.length co13 : Value).ownBlock ∧ some k_ ≠ (.slice Ao28 t19017.length co28 : Value).ownBlock ∧ k_ ≠ gb19011)) (by (with_reducible repeat (first | apply Kd.R_alloc | apply Kd.R_drewN | apply Kd.R_drew)); exact Kd.R_mono HO_3.out (fun _ hk => ⟨⟨hk.1.1, ⟨hk.1.2.2.1, ⟨hk.2, hk.1.2.2.2⟩⟩⟩, hk.1.2.1⟩)) hg hat)
            have n1_ := Aside0.mk (Kd.R_over' (by (with_reducible repeat (first | apply Kd.R_alloc | apply Kd.R_drewN | apply Kd.R_drew)); exact HO_19012001.out) (Kd.S_typed (by (with_reducible repeat (first | apply Kd.S_alloc | apply Kd.S_drewN | apply Kd.S_drew)); exact HO_19012003.out)) (by decide) hg)
            have n2_ := Aside0.mk (Kd.R_over' (by (with_reducible repeat (first | apply Kd.R_alloc | apply Kd.R_drewN | apply Kd.R_drew)); exact HO_19012004.out) (Kd.S_typed (by (with_reducible repeat (first | apply Kd.S_alloc | apply Kd.S_drewN | apply Kd.S_drew)); exact HO_19012003.out)) (by decide) hg)
            have n3_ := Aside0.mk (blk_grown (g := gb19011) (o := .cells #[.string ((rd_T44 l0 x4_1).f0), .slice Ao14 t19004.length co14, .int .i64 ((rd_T44 l0 x4_1).f2), u19012003, .slice Ao13 t19008.length co13] 44 (0, 0)) (by (with_reducible repeat (first | refine blk_drewN ?_ _ | refine blk_drew ?_ | refine blk_alloc ?_ _)); exact BK19011.out) hg (Kd.S_ne HO_19012003.out BK19011.out (by decide)))
            have n4_ := Aside0.mk (hb)
            have n5_ := Aside0.mk (ho)
            clear HO_3
            clear HO_19012001
            clear HO_19012004
            clear BK19011
            clear HB
            clear HO_19012003
            clear HO19019
            have HO_3 := n0_
            have HO_19012001 := n1_
            have HO_19012004 := n2_
            have BK19011 := n3_
            have HB := n4_
            have HO19022 := n5_
            clear n0_ n1_ n2_ n3_ n4_ n5_
            clear ho hb hg hat
            obtain ⟨Ao30, co30, eo30⟩ := Kd.S_slice HO19022.out
            (first | subst eo30 | (injection eo30 with f1_ f2_ f3_; have f4_ := f1_.symm; have f5_ := f3_.symm; clear f1_ f2_ f3_; subst f4_; subst f5_))
            refine hK.out _ _ ⟨(blk_cell BK19011.out 0).trans rfl, (blk_cell BK19011.out 1).trans rfl, (blk_cell BK19011.out 2).trans rfl, (blk_cell BK19011.out 3).trans rfl, (blk_cell BK19011.out 4).trans rfl, ((HB.out.cell (World.block_lt_of_cell? w _ hw19013_0)).trans hw19013_0), ((HB.out.cell (World.block_lt_of_cell? w _ hw19013_1)).trans hw19013_1), ((HB.out.cell (World.block_lt_of_cell? w _ hw19013_2)).trans hw19013_2), ((HB.out.cell (World.block_lt_of_cell? w _ hw19013_3)).trans hw19013_3), ((HB.out.cell (World.block_lt_of_cell? w _ hw19013_4)).trans hw19013_4), ((HB.out.cell (World.block_lt_of_cell? w _ hw19014_0)).trans hw19014_0), ((HB.out.cell (World.block_lt_of_cell? w _ hw19014_1)).trans hw19014_1), ((HB.out.cell (World.block_lt_of_cell? w _ hw19015_0)).trans hw19015_0), ((HB.out.cell (World.block_lt_of_cell? w _ hw19015_1)).trans hw19015_1), ((HB.out.cell (World.block_lt_of_cell? w _ hw19015_2)).trans hw19015_2), ((HB.out.cell (World.block_lt_of_cell? w _ hw19015_3)).trans hw19015_3), ((HB.out.cell (World.block_lt_of_cell? w _ hw19015_4)).trans hw19015_4), ((HB.out.cell (World.block_lt_of_cell? w _ hw19016_0)).trans hw19016_0), ((HB.out.cell (World.block_lt_of_cell? w _ hw19016_1)).trans hw19016_1)⟩ (fun hHeld => ?_)
            clear hK K
            refine norm_ (a' := ?_) ?_ ?_
            rotate_left
            ·show Act.put _ (some 69) _ = _
             simp only [Act.put, List.setIfInBounds_toArray, List.set_cons_zero, List.set_cons_succ, i64_w, i32_w]
             rfl
            refine pure_ (i := 24) (N := some 70) (v := ?_) (a' := ?_) #[true, true, true, true, true, true, true, true, true, true, true, true, true, true, true, true, true, true, true, true, true, true, true, true, true, false] rfl rfl (any_of HT_.out (by kernel_rfl)) (fun _ _ _ h => h) (Or.inl ⟨by rfl, ?_⟩) ?_ ?_
            rotate_left
            ·intro w'
             go_simp
             with_reducible rfl
            rotate_left
            ·simp only [Act.put, List.setIfInBounds_toArray, List.set_cons_zero, List.set_cons_succ, i64_w, i32_w]
             rfl
            refine last_ (i := 25) (N := none) #[true, true, true, true, true, true, true, true, true, true, true, true, true, true, true, true, true, true, true, true, true, true, true, true, true, true] rfl rfl (one_of HT_.out (by kernel_rfl)) (by decide) (fun K hK => ?_)
            have hs31 : w29.cell? ⟨gb19011, 3, none⟩ = some (u19012003) := (blk_cell BK19011.out 3).trans rfl
            have hfs31 := blk_frozen BK19011.out 3
            refine skip_ (w1 := ?_) (by rfl) rfl ?_ ?_
            rotate_left
            ·go_simp
             rfl
            refine hK.out _ _ ?_
            clear hK K
            refine done_ (done_of HT_.out (by kernel_rfl)) ?_
            try go_wp2
            go_roundg k2
            case measure => have := HK1.out; have := HK2.out; omega
            case rel => exact ⟨(wrap64 (x6_2 + 1)), (y19020), (.slice Ao30 y19020.length co30), (by first | rfl | (simp; done) | (simp [*]; done)), H', ⟨by have := HK1.out; have := HK2.out; omega⟩, ⟨by (with_reducible repeat (first | apply Kd.R_alloc | apply Kd.R_drewN | apply Kd.R_drew)); exact Kd.R_mono (Kd.R_far (p := ⟨gb19011, 3, none⟩) (Kd.R_mono HO_3.out (fun k_ hk => (⟨hk, hk.1.2.2.2⟩ : _ ∧ k_ ≠ gb19011))) (fun _ hk => hk.2) (.slice Ao30 y19020.length co30)) (fun _ hk => ⟨hk.1.1.1, ⟨hk.1.2, ⟨hk.1.1.2.1, hk.1.1.2.2.2⟩⟩⟩)⟩, ⟨by (with_reducible repeat (first | apply Kd.R_alloc | apply Kd.R_drewN | apply Kd.R_drew)); exact Kd.R_mono (Kd.R_far (p := ⟨gb19011, 3, none⟩) (Kd.R_types HO_19012001.out BK19011.out (by decide)) (fun _ hk => hk.2) (.slice Ao30 y19020.length co30)) (fun _ hk => hk.1)⟩, ⟨by (with_reducible repeat (first | apply Kd.S_alloc | apply Kd.S_drewN | apply Kd.S_drew)); exact Kd.S_mono (Kd.S_far (p := ⟨gb19011, 3, none⟩) (Kd.S_types HO19022.out BK19011.out (by decide)) (fun _ hk => hk.2) (.slice Ao30 y19020.length co30)) (fun _ hk => trivial)⟩, ⟨by (with_reducible repeat (first | apply Kd.R_alloc | apply Kd.R_drewN | apply Kd.R_drew)); exact Kd.R_mono (Kd.R_far (p := ⟨gb19011, 3, none⟩) (Kd.R_types HO_19012004.out BK19011.out (by decide)) (fun _ hk => hk.2) (.slice Ao30 y19020.length co30)) (fun _ hk => hk.1)⟩, ⟨by (with_reducible repeat (first | refine blk_drewN ?_ _ | refine blk_drew ?_ | refine blk_alloc ?_ _)); refine blk_put (cs := #[.string ((rd_T44 l0 x4_1).f0), .slice Ao14 t19004.length co14, .int .i64 ((rd_T44 l0 x4_1).f2), u19012003, .slice Ao13 t19008.length co13]) ?_ 3 _ rfl; (with_reducible repeat (first | refine blk_drewN ?_ _ | refine blk_drew ?_ | refine blk_alloc ?_ _)); exact BK19011.out⟩, ⟨by repeat (first | (with_reducible first | exact HB.out | apply below_alloc | apply pw_below_drewN | apply below_drew1 | refine below_set ?_ GE19011.out) | exact HB.out)⟩⟩
           ·rw [if_neg c25] at H
            exact absurd H (by simp)
          ·rw [if_neg c23] at H
           exact absurd H (by simp)
         ·rw [if_neg c22] at H
          have c22b0 : decide (x6_2 < (((rd_T44 l0 x4_1).f3).length : Int)) = false := decide_eq_false c22
          clear c22
          by_cases c32 : x3_1.length < 1466015503701
          ·rw [if_pos c32] at H
           have LMc32 := Aside0.mk c32
           clear c32
           obtain ⟨y19023, hy19023⟩ : ∃ y_ : List (S44), y_ = (x3_1 ++ [(⟨((rd_T44 l0 x4_1).f0), t19004, ((rd_T44 l0 x4_1).f2), x19012003_2, t19008⟩ : S44)]) := ⟨_, rfl⟩
           replace H : (tinderref08_Copy.l0 k2 l0 y19023 (wrap64 (x4_1 + 1))) = some r := by first | (rw [hy19023]; with_reducible exact H) | (have H2_ := (Option.bind_some _ _).symm.trans H; rw [hy19023]; with_reducible exact H2_) | (have H2_ := (Option.bind_some _ _).symm.trans H; with_reducible exact H2_) | with_reducible exact H | (rw [hy19023]; exact H) | exact H
           have Ny19023 := Aside0.mk hy19023
           clear hy19023
           have H' := Aside0.mk H
           clear H
           have p19012 : 0 ≤ (x4_1 : Int) := of_decide_eq_true (by first | (with_reducible assumption) | assumption)
           have q19012 : x4_1 < (l0.length : Int) := of_decide_eq_true (by first | (with_reducible assumption) | assumption)
           obtain ⟨ad19012, A19012_1, c19012_1, A19012_3, c19012_3, A19012_4, c19012_4, e19012, hx19012_0, hx19012_1, hx19012_2, hx19012_3, hx19012_4, hl19012_1, hi19012_1, hl19012_3, hi19012_3, hl19012_4, hi19012_4⟩ := at_T44 HR0.out x4_1 p19012 q19012
           obtain rfl : ad19001 = ad19012 := (by injection e19012)
           replace hx19012_0 := (HB.out.cell (World.block_lt_of_cell? w _ hx19012_0)).trans hx19012_0
           replace hx19012_1 := (HB.out.cell (World.block_lt_of_cell? w _ hx19012_1)).trans hx19012_1
           replace hx19012_2 := (HB.out.cell (World.block_lt_of_cell? w _ hx19012_2)).trans hx19012_2
           replace hx19012_3 := (HB.out.cell (World.block_lt_of_cell? w _ hx19012_3)).trans hx19012_3
           replace hx19012_4 := (HB.out.cell (World.block_lt_of_cell? w _ hx19012_4)).trans hx19012_4
           have HR19012_1 := Aside0.mk hi19012_1
           have HC19012_1 := Aside0.mk hl19012_1
           clear hi19012_1 hl19012_1
           have HR19012_3 := Aside0.mk hi19012_3
           have HC19012_3 := Aside0.mk hl19012_3
           clear hi19012_3 hl19012_3
           have HR19012_4 := Aside0.mk hi19012_4
           have HC19012_4 := Aside0.mk hl19012_4
           clear hi19012_4 hl19012_4
           replace p19012 := eq_true p19012
           replace q19012 := eq_true q19012
           have hcz33_0 : wr.cell? ⟨gb19011, 0, none⟩ = some (.string ((rd_T44 l0 x4_1).f0)) := (blk_cell BK19011.out 0).trans rfl
           have hcz33_1 : wr.cell? ⟨gb19011, 1, none⟩ = some (.slice Ao14 t19004.length co14) := (blk_cell BK19011.out 1).trans rfl
           have hcz33_2 : wr.cell? ⟨gb19011, 2, none⟩ = some (.int .i64 ((rd_T44 l0 x4_1).f2)) := (blk_cell BK19011.out 2).trans rfl
           have hcz33_3 : wr.cell? ⟨gb19011, 3, none⟩ = some (u19012003) := (blk_cell BK19011.out 3).trans rfl
           have hcz33_4 : wr.cell? ⟨gb19011, 4, none⟩ = some (.slice Ao13 t19008.length co13) := (blk_cell BK19011.out 4).trans rfl
           have hfz33_0 := blk_frozen BK19011.out 0
           have hfz33_1 := blk_frozen BK19011.out 1
           have hfz33_2 := blk_frozen BK19011.out 2
           have hfz33_3 := blk_frozen BK19011.out 3
           have hfz33_4 := blk_frozen BK19011.out 4
           obtain ⟨Ao35, co35, eo35⟩ := Kd.S_slice HO_19012003.out
           subst eo35
           go_wp2_with (first | ((with_reducible refine gate_builtin (b := .append) (xs := #[.tmp 71, .tmp 73]) rfl ?_); at_builtin; refine Kd.R_append k44 (w0 := w) w.heap.size rfl (.tmp 71) (.tmp 73) 22 44 (.agg #[(.string ⟨#[]⟩), (.slice none 0 0), (.int .i64 0), (.slice none 0 0), (.slice none 0 0)]) 96 rfl Tryd.underlying22 info44 rfl (by decide) (by omega) u3 x3_1 (⟨((rd_T44 l0 x4_1).f0), t19004, ((rd_T44 l0 x4_1).f2), x19012003_2, t19008⟩ : S44) [.string ((rd_T44 l0 x4_1).f0), .slice Ao14 t19004.length co14, .int .i64 ((rd_T44 l0 x4_1).f2), .slice Ao35 x19012003_2.length co35, .slice Ao13 t19008.length co13] (fun k_ => k_ ≠ gb19011) (fun k_ => ((fun k_ => k_ ≠ gb19011)) k_ ∧ some k_ ≠ (u3 : Value).ownBlock) rfl rfl ?aP (fun _ hk => hk) ?aF ?aO ?aB ?aS ?aL ?_; (case aP => exact k44_mkM _ _ _ (⟨((rd_T44 l0 x4_1).f0), t19004, ((rd_T44 l0 x4_1).f2), x19012003_2, t19008⟩ : S44) (Kd.R_mono (Kd.R_types (Kd.R_apart' (HO_19012001.out) (Kd.R_typed HO_3.out) (by decide)) BK19011.out (by decide)) (fun k_ hk => ⟨hk.2, hk.1.2⟩)) (Kd.R_mono (Kd.R_types (Kd.R_apart' ((Kd.S_R HO_19012003.out)) (Kd.R_typed HO_3.out) (by decide)) BK19011.out (by decide)) (fun k_ hk => ⟨hk.2, hk.1.2⟩)) (Kd.R_mono (Kd.R_types (Kd.R_apart' (HO_19012004.out) (Kd.R_typed HO_3.out) (by decide)) BK19011.out (by decide)) (fun k_ hk => ⟨hk.2, hk.1.2⟩))); (case aB => exact (by repeat (first | (with_reducible first | exact HB.out | apply below_alloc | apply pw_below_drewN | apply below_drew1 | refine below_set ?_ GE19011.out) | exact HB.out))); (case aF => exact (fun k_ hk => Kd.freshB (g := gb19011) (o := .cells #[.string ((rd_T44 l0 x4_1).f0), .slice Ao14 t19004.length co14, .int .i64 ((rd_T44 l0 x4_1).f2), .slice Ao35 x19012003_2.length co35, .slice Ao13 t19008.length co13] 44 (0, 0)) (by (with_reducible repeat (first | refine blk_drewN ?_ _ | refine blk_drew ?_ | refine blk_alloc ?_ _)); exact BK19011.out) k_ hk)); (case aO => exact (by (with_reducible repeat (first | apply Kd.R_alloc | apply Kd.R_drewN | apply Kd.R_drew)); exact Kd.R_mono HO_3.out (fun _ hk => hk.2.2.2))); (case aS => exact (below_size (by repeat (first | (with_reducible first | exact HB.out | apply below_alloc | apply pw_below_drewN | apply below_drew1 | refine below_set ?_ GE19011.out) | exact HB.out)))); (case aL => have := LMc32.out; omega); intro v19024 w34 ho hb hg hat; rw [← Ny19023.out] at ho; have n0_ := Aside0.mk (blk_grown (g := gb19011) (o := .cells #[.string ((rd_T44 l0 x4_1).f0), .slice Ao14 t19004.length co14, .int .i64 ((rd_T44 l0 x4_1).f2), .slice Ao35 x19012003_2.length co35, .slice Ao13 t19008.length co13] 44 (0, 0)) (by (with_reducible repeat (first | refine blk_drewN ?_ _ | refine blk_drew ?_ | refine blk_alloc ?_ _)); exact BK19011.out) hg (Kd.R_away HO_3.out (fun _ hk => hk.2.2.2))); have n1_ := Aside0.mk (hb); have n2_ := Aside0.mk (ho); clear BK19011; clear HB; clear HO_3; clear HO_19012001; clear HO_19012003; clear HO_19012004; have BK19011 := n0_; have HB := n1_; have HO19025 := n2_; clear n0_ n1_ n2_; clear ho hb hg hat))
           go_roundg k2
           case measure => have := HK1.out; have := HK2.out; omega
           case rel => exact ⟨(y19023), (wrap64 (x4_1 + 1)), (by first | rfl | (simp; done) | (simp [*]; done)), H', ⟨by have := HK1.out; have := HK2.out; omega⟩, ⟨by (with_reducible repeat (first | apply Kd.R_alloc | apply Kd.R_drewN | apply Kd.R_drew)); exact Kd.R_mono HO19025.out (fun _ hk => trivial)⟩, ⟨by repeat (first | (with_reducible first | exact HB.out | apply below_alloc | apply pw_below_drewN | apply below_drew1 | refine below_set ?_ GE19011.out) | exact HB.out)⟩⟩
          ·rw [if_neg c32] at H
           exact absurd H (by simp)
        ·rw [if_neg c21] at H
         exact absurd H (by simp)
       ·rw [if_neg c20] at H
        exact absurd H (by simp)
    ·rw [if_neg c3] at H
     exact absurd H (by simp)
   ·rw [if_neg c2] at H
    have c2b0 : decide (x4_1 < (l0.length : Int)) = false := decide_eq_false c2
    clear c2
    obtain rfl := Option.some.inj H
    go_wp2
    go_ret
    exact ⟨_, by first | rfl | (simp [errW_none, errW_some] <;> rfl) | (simp [*, errW_none, errW_some] <;> rfl), by (with_reducible repeat (first | apply Kd.R_alloc | apply Kd.R_drewN | apply Kd.R_drew)); exact HO_3.out, by repeat (first | (with_reducible first | exact HB.out | apply below_alloc | apply pw_below_drewN | apply below_drew1) | exact HB.out)⟩

end Go.Proofs.YtnalcjgefbelnaaDoor.Q
end
