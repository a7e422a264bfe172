/- Contracts of Go functions and plain facts, of several texts, one behind the other; no condition. -/
import Derived.Test.YtnalcjgefbelnaaDoorMTreeSets2
import Derived.Deep.RegionHeld3
section
set_option linter.unusedSimpArgs false
set_option linter.unusedVariables false
namespace Go.Proofs.YtnalcjgefbelnaaDoor.Q
open Go.RowKit Go.Proofs.YtnalcjgefbelnaaDoorW.PrintWords Go.Proofs.YtnalcjgefbelnaaDoorW.PrintLast Go.Proofs.YtnalcjgefbelnaaDoorW.PrintMore
attribute [local go_sem] max2_int min2_int max_two min_two max_three min_three max_four min_four
def pOk (l : List S53) (i : Nat) : Bool := namedF (l.getD i z53).f0 && (decide ((l.getD i z53).f1.length ≤ 256) && !(l.take i).any (isP (l.getD i z53).f0))
def propsF (l : List S53) : Bool := decide (l.length ≤ 16) && (List.range l.length).all (pOk l)
theorem info53s : (Tryd.prog.info? 53).map (·.size) = some 2 := by kernel_rfl
theorem range_all (n : Nat) (p : Nat → Bool) (h : ∀ j, j < n → p j = true) : (List.range n).all p = true := List.all_eq_true.2 (fun j hj => h j (List.mem_range.1 hj))
theorem range_not (n : Nat) (p : Nat → Bool) (j : Nat) (hj : j < n) (h : p j = false) : (List.range n).all p = false := by
 rw [List.all_eq_false]
 exact ⟨j, List.mem_range.2 hj, by rw [h]; exact Bool.false_ne_true⟩
/-- A box of two cells, and what lies below. -/
def Held2 (g : Nat) (a b : Value) (w w' : World) : Prop := (w'.cell? ⟨g, 0, none⟩ = some a ∧ w'.cell? ⟨g, 1, none⟩ = some b) ∧ Below w.heap.size w w'
theorem held2_start (wr w : World) (a b : Value) (t : Nat) (hb : Below w.heap.size w wr) : (((wr.alloc (.cells #[a, b] t)).cell? ⟨wr.heap.size, 0, none⟩ = some a ∧ (wr.alloc (.cells #[a, b] t)).cell? ⟨wr.heap.size, 1, none⟩ = some b) ∧ Below w.heap.size w (wr.alloc (.cells #[a, b] t))) := by
 have hh : (wr.alloc (.cells #[a, b] t)).heap[wr.heap.size]? = some (.cells #[a, b] t (0, 0)) := heap_alloc_new wr _
 exact ⟨⟨blk_cell hh 0, blk_cell hh 1⟩, below_alloc hb _⟩
theorem held2_drew (wr w : World) (a b : Value) (t : Nat) (hb : Below w.heap.size w wr) : (((wr.alloc (.cells #[a, b] t)).drew.cell? ⟨wr.heap.size, 0, none⟩ = some a ∧ (wr.alloc (.cells #[a, b] t)).drew.cell? ⟨wr.heap.size, 1, none⟩ = some b) ∧ Below w.heap.size w (wr.alloc (.cells #[a, b] t)).drew) :=
 ⟨(held2_start wr w a b t hb).1, below_drew1 (held2_start wr w a b t hb).2⟩
theorem held2_step {g : Nat} {a b : Value} {w W w2 : World} (h : (W.cell? ⟨g, 0, none⟩ = some a ∧ W.cell? ⟨g, 1, none⟩ = some b) ∧ Below w.heap.size w W) (hb : Below W.heap.size W w2) : (w2.cell? ⟨g, 0, none⟩ = some a ∧ w2.cell? ⟨g, 1, none⟩ = some b) ∧ Below w.heap.size w w2 :=
 ⟨⟨(hb.cell (World.block_lt_of_cell? _ _ h.1.1)).trans h.1.1, (hb.cell (World.block_lt_of_cell? _ _ h.1.2)).trans h.1.2⟩, below_step h.2 hb⟩
set_option maxHeartbeats 8000000 in
set_option maxRecDepth 100000 in
theorem propsFormed_calls (A : Option Addr) (c : Nat) (l : List S53) (w : World) (hC : Kd.C k53 w A l.length l) (hc : l.length ≤ c) :
  Calls Tryd.prog 40 #[.slice A l.length c] w fun e w' => e = .returned (.bool (propsF l)) ∧ Below w.heap.size w w' := by
 have hu106 := Tryd.underlying53
 have hm := Kd.C_max hC
 by_cases h16 : l.length ≤ 16
 ·have d1 : decide ((16 : Int) < (l.length : Int)) = false := decide_eq_false (by omega)
  have HPF := Aside0.mk (show propsF l = (List.range l.length).all (pOk l) by unfold propsF; rw [decide_eq_true h16, Bool.true_and])
  have HC := Aside0.mk hC
  have HCC := Aside0.mk hc
  have H16 := Aside0.mk h16
  have HNM := Aside0.mk (fun (s : ByteArray) (W : World) => prop_Named.calls 400 s (namedF s) W (named_eq 400 (by decide) s))
  have HB0 := Aside0.mk (Below.refl w.heap.size w)
  have mixed : Tryd.prog.follows Departure.mixedOrders = true := by kernel_rfl
  clear hC hc hm h16
  go_enter Tryd.func40, Tryd.ntmps40
  go_wp2
  go_loopg [10] l.length (fun kq v8 w' => ∃ i : Int, v8 = .int .i64 i ∧ Aside0 (0 ≤ i ∧ i + kq = l.length) ∧ Aside0 (∀ j : Nat, j < i.toNat → pOk l j = true) ∧ Aside0 (Below w.heap.size w w'))
  case atStart => exact ⟨0, rfl, ⟨by omega, by omega⟩, ⟨fun j hj => absurd hj (by simp)⟩, ⟨Below.refl _ _⟩⟩
  case round =>
   obtain ⟨i, rfl, HI, HZ, HB⟩ := hrel
   cases gk with
   | zero =>
    have hlt : decide (i < (l.length : Int)) = false := decide_eq_false (by have := HI.out; omega)
    go_wp2
    go_ret
    have hz := HZ.out
    have hi := HI.out
    exact ⟨by rw [HPF.out, range_all _ _ (fun j hj => hz j (by omega))]; rfl, HB.out⟩
   | succ k1 =>
    have hi := HI.out
    have hlt : decide (i < (l.length : Int)) = true := decide_eq_true (by omega)
    have p1 : (0 ≤ i) = True := eq_true (by omega)
    have p2 : (i < (l.length : Int)) = True := eq_true (by omega)
    obtain ⟨ad, A1, c1, eA, hx0, hx1, hl1, hg1⟩ := at_T53 (Kd.C_below HC.out HB.out) i (by omega) (by omega)
    cases eA
    have hwr : IntKind.i64.wrap (i + 1) = i + 1 := (i64_w _).trans (by unfold wrap64; have := H16.out; omega)
    have hwr2 : wrap64 (i + 1) = i + 1 := by unfold wrap64; have := H16.out; omega
    have hcut := run_cut_hi (P := Tryd.prog) Tryd.underlying42 info53s (some ad) l.length c i (by omega) (by have := HCC.out; omega)
    have HTK := Aside0.mk (fun (W : World) (hb : Below w.heap.size w W) => (Kd.C_take (Kd.C_below HC.out hb) (by omega) : Kd.C k53 W (some ad) (l.take i.toNat).length (l.take i.toNat)))
    have HTL := Aside0.mk (show (l.take i.toNat).length = i.toNat by rw [List.length_take]; omega)
    have HPO := Aside0.mk (show pOk l i.toNat = (namedF (rd_T53 l i).f0 && (decide ((rd_T53 l i).f1.length ≤ 256) && !(l.take i.toNat).any (isP (rd_T53 l i).f0))) from rfl)
    generalize rd_T53 l i = x at *
    rw [← HTL.out] at hcut
    have HHI := Aside0.mk hi
    have HCN := Aside0.mk (fun (gb : Nat) (W : World) (hb : Below w.heap.size w W) (hh : W.heap[gb]? = some (.cells #[.string x.f0] 9 (0, 0))) => containsProp_calls x.f0 gb (some ad) c (l.take i.toNat) W (HTK.out W hb) hh)
    generalize l.take i.toNat = LT at *
    clear hi hl1 hg1
    have HNA := Aside0.mk (fun W : World => HNM.out x.f0 W)
    cases b1 : namedF x.f0
    ·rw [b1] at HPO HNA
     go_wp2
     refine start_ (n := 19) (S := fun w' => (w'.cell? ⟨wr.heap.size, 0, none⟩ = some (.string x.f0) ∧ w'.cell? ⟨wr.heap.size, 1, none⟩ = some (.slice A1 x.f1.length c1)) ∧ Below w.heap.size w w') (ds := []) #[false, false, false, false, false, false, false, false, false, false, false, false, false, false, false, false, false, false, false] (by kernel_rfl) rfl rfl (held2_drew wr w _ _ _ HB.out) (fun hHeld => ?_)
     refine pure_ (i := 0) (N := some 15) (v := ?_) (a' := ?_) #[true, false, false, false, false, false, false, false, false, false, false, false, false, false, false, false, false, false, false] rfl rfl (by kernel_rfl) (fun _ _ _ h => h) (Or.inl ⟨by rfl, ?_⟩) ?_ ?_
     rotate_left
     ·intro w'
      go_simp
      with_reducible rfl
     rotate_left
     ·simp only [Act.put, List.setIfInBounds_toArray, List.set_cons_zero, List.set_cons_succ]
      rfl
     refine take_ (i := 1) (N := some 16) (v := (.string x.f0)) (a' := ?_) #[true, true, false, false, false, false, false, false, false, false, false, false, false, false, false, false, false, false, false] rfl rfl (by kernel_rfl) (fun _ _ _ h => h) (Or.inl ⟨by rfl, ?_⟩) hHeld ?_ ?_
     rotate_left
     rotate_left
     ·simp only [Act.put, List.setIfInBounds_toArray, List.set_cons_zero, List.set_cons_succ]
      rfl
     rotate_left
     ·rintro w' ⟨⟨s0, s1⟩, s2⟩
      go_simp
     refine one_ (i := 2) (N := some 17) #[true, true, true, false, false, false, false, false, false, false, false, false, false, false, false, false, false, false, false] rfl rfl (by kernel_rfl) (by decide) (fun K hK => ?_)
     refine goes_ Tryd.func41 (by kernel_rfl) rfl #[.string x.f0] (by rfl) rfl rfl (by first | rfl | (simp only [List.map_toArray, List.map_cons, List.map_nil]; rfl)) ?_
     refine (HNA.out _).mono ?_
     rintro e w2 ⟨rfl, hb⟩
     refine ⟨_, rfl, hK.out _ _ (held2_step hHeld hb) (fun hHeld => ?_)⟩
     clear hb
     clear hK K
     simp only [Act.put, List.setIfInBounds_toArray, List.set_cons_zero, List.set_cons_succ]
     refine pure_ (i := 3) (N := some 18) (v := ?_) (a' := ?_) #[true, true, true, true, false, false, false, false, false, false, false, false, false, false, false, false, false, false, false] rfl rfl (by kernel_rfl) (fun _ _ _ h => h) (Or.inl ⟨by rfl, ?_⟩) ?_ ?_
     rotate_left
     ·intro w'
      go_simp
      with_reducible rfl
     rotate_left
     ·simp only [Act.put, List.setIfInBounds_toArray, List.set_cons_zero, List.set_cons_succ]
      rfl
     refine pure_ (i := 4) (N := some 19) (v := ?_) (a' := ?_) #[true, true, true, true, true, false, false, false, false, false, false, false, false, false, false, false, false, false, false] rfl rfl (by kernel_rfl) (fun _ _ _ h => h) (Or.inl ⟨by rfl, ?_⟩) ?_ ?_
     rotate_left
     ·intro w'
      go_simp
      with_reducible rfl
     rotate_left
     ·simp only [Act.put, List.setIfInBounds_toArray, List.set_cons_zero, List.set_cons_succ]
      rfl
     refine pure_ (i := 5) (N := some 20) (v := undef) (a' := ?_) #[true, true, true, true, true, true, false, false, false, false, false, false, false, false, false, false, false, false, false] rfl rfl (by kernel_rfl) (fun _ _ _ h => h) (Or.inr ⟨by rfl, rfl⟩) ?_ ?_
     rotate_left
     ·simp only [Act.put, List.setIfInBounds_toArray, List.set_cons_zero, List.set_cons_succ]
      rfl
     refine pure_ (i := 6) (N := some 21) (v := undef) (a' := ?_) #[true, true, true, true, true, true, true, false, false, false, false, false, false, false, false, false, false, false, false] rfl rfl (by kernel_rfl) (fun _ _ _ h => h) (Or.inr ⟨by rfl, rfl⟩) ?_ ?_
     rotate_left
     ·simp only [Act.put, List.setIfInBounds_toArray, List.set_cons_zero, List.set_cons_succ]
      rfl
     refine pure_ (i := 7) (N := some 22) (v := undef) (a' := ?_) #[true, true, true, true, true, true, true, true, false, false, false, false, false, false, false, false, false, false, false] rfl rfl (by kernel_rfl) (fun _ _ _ h => h) (Or.inr ⟨by rfl, rfl⟩) ?_ ?_
     rotate_left
     ·simp only [Act.put, List.setIfInBounds_toArray, List.set_cons_zero, List.set_cons_succ]
      rfl
     refine pure_ (i := 8) (N := some 23) (v := undef) (a' := ?_) #[true, true, true, true, true, true, true, true, true, false, false, false, false, false, false, false, false, false, false] rfl rfl (by kernel_rfl) (fun _ _ _ h => h) (Or.inr ⟨by rfl, rfl⟩) ?_ ?_
     rotate_left
     ·simp only [Act.put, List.setIfInBounds_toArray, List.set_cons_zero, List.set_cons_succ]
      rfl
     refine pure_ (i := 9) (N := some 24) (v := ?_) (a' := ?_) #[true, true, true, true, true, true, true, true, true, true, false, false, false, false, false, false, false, false, false] rfl rfl (by kernel_rfl) (fun _ _ _ h => h) (Or.inl ⟨by rfl, ?_⟩) ?_ ?_
     rotate_left
     ·intro w'
      go_simp
      with_reducible rfl
     rotate_left
     ·simp only [Act.put, List.setIfInBounds_toArray, List.set_cons_zero, List.set_cons_succ]
      rfl
     refine pure_ (i := 10) (N := some 25) (v := ?_) (a' := ?_) #[true, true, true, true, true, true, true, true, true, true, true, false, false, false, false, false, false, false, false] rfl rfl (by kernel_rfl) (fun _ _ _ h => h) (Or.inl ⟨by rfl, ?_⟩) ?_ ?_
     rotate_left
     ·intro w'
      go_simp
      with_reducible rfl
     rotate_left
     ·simp only [Act.put, List.setIfInBounds_toArray, List.set_cons_zero, List.set_cons_succ]
      rfl
     refine pure_ (i := 11) (N := some 26) (v := undef) (a' := ?_) #[true, true, true, true, true, true, true, true, true, true, true, true, false, false, false, false, false, false, false] rfl rfl (by kernel_rfl) (fun _ _ _ h => h) (Or.inr ⟨by rfl, rfl⟩) ?_ ?_
     rotate_left
     ·simp only [Act.put, List.setIfInBounds_toArray, List.set_cons_zero, List.set_cons_succ]
      rfl
     refine pure_ (i := 12) (N := some 27) (v := undef) (a' := ?_) #[true, true, true, true, true, true, true, true, true, true, true, true, true, false, false, false, false, false, false] rfl rfl (by kernel_rfl) (fun _ _ _ h => h) (Or.inr ⟨by rfl, rfl⟩) ?_ ?_
     rotate_left
     ·simp only [Act.put, List.setIfInBounds_toArray, List.set_cons_zero, List.set_cons_succ]
      rfl
     refine pure_ (i := 13) (N := some 28) (v := undef) (a' := ?_) #[true, true, true, true, true, true, true, true, true, true, true, true, true, true, false, false, false, false, false] rfl rfl (by kernel_rfl) (fun _ _ _ h => h) (Or.inr ⟨by rfl, rfl⟩) ?_ ?_
     rotate_left
     ·simp only [Act.put, List.setIfInBounds_toArray, List.set_cons_zero, List.set_cons_succ]
      rfl
     refine pure_ (i := 14) (N := some 29) (v := undef) (a' := ?_) #[true, true, true, true, true, true, true, true, true, true, true, true, true, true, true, false, false, false, false] rfl rfl (by kernel_rfl) (fun _ _ _ h => h) (Or.inr ⟨by rfl, rfl⟩) ?_ ?_
     rotate_left
     ·simp only [Act.put, List.setIfInBounds_toArray, List.set_cons_zero, List.set_cons_succ]
      rfl
     refine pure_ (i := 15) (N := some 30) (v := undef) (a' := ?_) #[true, true, true, true, true, true, true, true, true, true, true, true, true, true, true, true, false, false, false] rfl rfl (by kernel_rfl) (fun _ _ _ h => h) (Or.inr ⟨by rfl, rfl⟩) ?_ ?_
     rotate_left
     ·simp only [Act.put, List.setIfInBounds_toArray, List.set_cons_zero, List.set_cons_succ]
      rfl
     refine pure_ (i := 16) (N := some 31) (v := undef) (a' := ?_) #[true, true, true, true, true, true, true, true, true, true, true, true, true, true, true, true, true, false, false] rfl rfl (by kernel_rfl) (fun _ _ _ h => h) (Or.inr ⟨by rfl, rfl⟩) ?_ ?_
     rotate_left
     ·simp only [Act.put, List.setIfInBounds_toArray, List.set_cons_zero, List.set_cons_succ]
      rfl
     refine pure_ (i := 17) (N := some 32) (v := undef) (a' := ?_) #[true, true, true, true, true, true, true, true, true, true, true, true, true, true, true, true, true, true, false] rfl rfl (by kernel_rfl) (fun _ _ _ h => h) (Or.inr ⟨by rfl, rfl⟩) ?_ ?_
     rotate_left
     ·simp only [Act.put, List.setIfInBounds_toArray, List.set_cons_zero, List.set_cons_succ]
      rfl
     refine pure_ (i := 18) (N := some 33) (v := ?_) (a' := ?_) #[true, true, true, true, true, true, true, true, true, true, true, true, true, true, true, true, true, true, true] rfl rfl (by kernel_rfl) (fun _ _ _ h => h) (Or.inl ⟨by rfl, ?_⟩) ?_ ?_
     rotate_left
     ·intro w'
      go_simp
      with_reducible rfl
     rotate_left
     ·simp only [Act.put, List.setIfInBounds_toArray, List.set_cons_zero, List.set_cons_succ]
      rfl
     refine done_ (n := 0) (by kernel_rfl) ?_
     go_wp2
     go_ret
     have hi := HHI.out
     exact ⟨by rw [HPF.out, range_not _ _ i.toNat (by omega) (by rw [HPO.out]; rfl)]; rfl, hHeld.2⟩
    ·rw [b1] at HPO HNA
     cases b2 : decide (x.f1.length ≤ 256)
     ·rw [b2] at HPO
      have d2 : decide ((256 : Int) < (x.f1.length : Int)) = true := decide_eq_true (by have := of_decide_eq_false b2; omega)
      clear b1 b2
      go_wp2
      refine start_ (n := 19) (S := fun w' => (w'.cell? ⟨wr.heap.size, 0, none⟩ = some (.string x.f0) ∧ w'.cell? ⟨wr.heap.size, 1, none⟩ = some (.slice A1 x.f1.length c1)) ∧ Below w.heap.size w w') (ds := []) #[false, false, false, false, false, false, false, false, false, false, false, false, false, false, false, false, false, false, false] (by kernel_rfl) rfl rfl (held2_drew wr w _ _ _ HB.out) (fun hHeld => ?_)
      refine pure_ (i := 0) (N := some 15) (v := ?_) (a' := ?_) #[true, false, false, false, false, false, false, false, false, false, false, false, false, false, false, false, false, false, false] rfl rfl (by kernel_rfl) (fun _ _ _ h => h) (Or.inl ⟨by rfl, ?_⟩) ?_ ?_
      rotate_left
      ·intro w'
       go_simp
       with_reducible rfl
      rotate_left
      ·simp only [Act.put, List.setIfInBounds_toArray, List.set_cons_zero, List.set_cons_succ]
       rfl
      refine take_ (i := 1) (N := some 16) (v := (.string x.f0)) (a' := ?_) #[true, true, false, false, false, false, false, false, false, false, false, false, false, false, false, false, false, false, false] rfl rfl (by kernel_rfl) (fun _ _ _ h => h) (Or.inl ⟨by rfl, ?_⟩) hHeld ?_ ?_
      rotate_left
      rotate_left
      ·simp only [Act.put, List.setIfInBounds_toArray, List.set_cons_zero, List.set_cons_succ]
       rfl
      rotate_left
      ·rintro w' ⟨⟨s0, s1⟩, s2⟩
       go_simp
      refine one_ (i := 2) (N := some 17) #[true, true, true, false, false, false, false, false, false, false, false, false, false, false, false, false, false, false, false] rfl rfl (by kernel_rfl) (by decide) (fun K hK => ?_)
      refine goes_ Tryd.func41 (by kernel_rfl) rfl #[.string x.f0] (by rfl) rfl rfl (by first | rfl | (simp only [List.map_toArray, List.map_cons, List.map_nil]; rfl)) ?_
      refine (HNA.out _).mono ?_
      rintro e w2 ⟨rfl, hb⟩
      refine ⟨_, rfl, hK.out _ _ (held2_step hHeld hb) (fun hHeld => ?_)⟩
      clear hb
      clear hK K
      simp only [Act.put, List.setIfInBounds_toArray, List.set_cons_zero, List.set_cons_succ]
      refine pure_ (i := 3) (N := some 18) (v := ?_) (a' := ?_) #[true, true, true, true, false, false, false, false, false, false, false, false, false, false, false, false, false, false, false] rfl rfl (by kernel_rfl) (fun _ _ _ h => h) (Or.inl ⟨by rfl, ?_⟩) ?_ ?_
      rotate_left
      ·intro w'
       go_simp
       with_reducible rfl
      rotate_left
      ·simp only [Act.put, List.setIfInBounds_toArray, List.set_cons_zero, List.set_cons_succ]
       rfl
      refine pure_ (i := 4) (N := some 19) (v := ?_) (a' := ?_) #[true, true, true, true, true, false, false, false, false, false, false, false, false, false, false, false, false, false, false] rfl rfl (by kernel_rfl) (fun _ _ _ h => h) (Or.inl ⟨by rfl, ?_⟩) ?_ ?_
      rotate_left
      ·intro w'
       go_simp
       with_reducible rfl
      rotate_left
      ·simp only [Act.put, List.setIfInBounds_toArray, List.set_cons_zero, List.set_cons_succ]
       rfl
      refine pure_ (i := 5) (N := some 20) (v := ?_) (a' := ?_) #[true, true, true, true, true, true, false, false, false, false, false, false, false, false, false, false, false, false, false] rfl rfl (by kernel_rfl) (fun _ _ _ h => h) (Or.inl ⟨by rfl, ?_⟩) ?_ ?_
      rotate_left
      ·intro w'
       go_simp
       with_reducible rfl
      rotate_left
      ·simp only [Act.put, List.setIfInBounds_toArray, List.set_cons_zero, List.set_cons_succ]
       rfl
      refine take_ (i := 6) (N := some 21) (v := (.slice A1 x.f1.length c1)) (a' := ?_) #[true, true, true, true, true, true, true, false, false, false, false, false, false, false, false, false, false, false, false] rfl rfl (by kernel_rfl) (fun _ _ _ h => h) (Or.inl ⟨by rfl, ?_⟩) hHeld ?_ ?_
      rotate_left
      rotate_left
      ·simp only [Act.put, List.setIfInBounds_toArray, List.set_cons_zero, List.set_cons_succ]
       rfl
      rotate_left
      ·rintro w' ⟨⟨s0, s1⟩, s2⟩
       go_simp
      refine pure_ (i := 7) (N := some 22) (v := ?_) (a' := ?_) #[true, true, true, true, true, true, true, true, false, false, false, false, false, false, false, false, false, false, false] rfl rfl (by kernel_rfl) (fun _ _ _ h => h) (Or.inl ⟨by rfl, ?_⟩) ?_ ?_
      rotate_left
      ·intro w'
       go_simp
       with_reducible rfl
      rotate_left
      ·simp only [Act.put, List.setIfInBounds_toArray, List.set_cons_zero, List.set_cons_succ]
       rfl
      refine pure_ (i := 8) (N := some 23) (v := ?_) (a' := ?_) #[true, true, true, true, true, true, true, true, true, false, false, false, false, false, false, false, false, false, false] rfl rfl (by kernel_rfl) (fun _ _ _ h => h) (Or.inl ⟨by rfl, ?_⟩) ?_ ?_
      rotate_left
      ·intro w'
       go_simp
       with_reducible rfl
      rotate_left
      ·simp only [Act.put, List.setIfInBounds_toArray, List.set_cons_zero, List.set_cons_succ]
       rfl
      refine pure_ (i := 9) (N := some 24) (v := ?_) (a' := ?_) #[true, true, true, true, true, true, true, true, true, true, false, false, false, false, false, false, false, false, false] rfl rfl (by kernel_rfl) (fun _ _ _ h => h) (Or.inl ⟨by rfl, ?_⟩) ?_ ?_
      rotate_left
      ·intro w'
       go_simp
       with_reducible rfl
      rotate_left
      ·simp only [Act.put, List.setIfInBounds_toArray, List.set_cons_zero, List.set_cons_succ]
       rfl
      refine pure_ (i := 10) (N := some 25) (v := ?_) (a' := ?_) #[true, true, true, true, true, true, true, true, true, true, true, false, false, false, false, false, false, false, false] rfl rfl (by kernel_rfl) (fun _ _ _ h => h) (Or.inl ⟨by rfl, ?_⟩) ?_ ?_
      rotate_left
      ·intro w'
       go_simp
       with_reducible rfl
      rotate_left
      ·simp only [Act.put, List.setIfInBounds_toArray, List.set_cons_zero, List.set_cons_succ]
       rfl
      refine pure_ (i := 11) (N := some 26) (v := undef) (a' := ?_) #[true, true, true, true, true, true, true, true, true, true, true, true, false, false, false, false, false, false, false] rfl rfl (by kernel_rfl) (fun _ _ _ h => h) (Or.inr ⟨by rfl, rfl⟩) ?_ ?_
      rotate_left
      ·simp only [Act.put, List.setIfInBounds_toArray, List.set_cons_zero, List.set_cons_succ]
       rfl
      refine pure_ (i := 12) (N := some 27) (v := undef) (a' := ?_) #[true, true, true, true, true, true, true, true, true, true, true, true, true, false, false, false, false, false, false] rfl rfl (by kernel_rfl) (fun _ _ _ h => h) (Or.inr ⟨by rfl, rfl⟩) ?_ ?_
      rotate_left
      ·simp only [Act.put, List.setIfInBounds_toArray, List.set_cons_zero, List.set_cons_succ]
       rfl
      refine pure_ (i := 13) (N := some 28) (v := undef) (a' := ?_) #[true, true, true, true, true, true, true, true, true, true, true, true, true, true, false, false, false, false, false] rfl rfl (by kernel_rfl) (fun _ _ _ h => h) (Or.inr ⟨by rfl, rfl⟩) ?_ ?_
      rotate_left
      ·simp only [Act.put, List.setIfInBounds_toArray, List.set_cons_zero, List.set_cons_succ]
       rfl
      refine pure_ (i := 14) (N := some 29) (v := undef) (a' := ?_) #[true, true, true, true, true, true, true, true, true, true, true, true, true, true, true, false, false, false, false] rfl rfl (by kernel_rfl) (fun _ _ _ h => h) (Or.inr ⟨by rfl, rfl⟩) ?_ ?_
      rotate_left
      ·simp only [Act.put, List.setIfInBounds_toArray, List.set_cons_zero, List.set_cons_succ]
       rfl
      refine pure_ (i := 15) (N := some 30) (v := undef) (a' := ?_) #[true, true, true, true, true, true, true, true, true, true, true, true, true, true, true, true, false, false, false] rfl rfl (by kernel_rfl) (fun _ _ _ h => h) (Or.inr ⟨by rfl, rfl⟩) ?_ ?_
      rotate_left
      ·simp only [Act.put, List.setIfInBounds_toArray, List.set_cons_zero, List.set_cons_succ]
       rfl
      refine pure_ (i := 16) (N := some 31) (v := undef) (a' := ?_) #[true, true, true, true, true, true, true, true, true, true, true, true, true, true, true, true, true, false, false] rfl rfl (by kernel_rfl) (fun _ _ _ h => h) (Or.inr ⟨by rfl, rfl⟩) ?_ ?_
      rotate_left
      ·simp only [Act.put, List.setIfInBounds_toArray, List.set_cons_zero, List.set_cons_succ]
       rfl
      refine pure_ (i := 17) (N := some 32) (v := undef) (a' := ?_) #[true, true, true, true, true, true, true, true, true, true, true, true, true, true, true, true, true, true, false] rfl rfl (by kernel_rfl) (fun _ _ _ h => h) (Or.inr ⟨by rfl, rfl⟩) ?_ ?_
      rotate_left
      ·simp only [Act.put, List.setIfInBounds_toArray, List.set_cons_zero, List.set_cons_succ]
       rfl
      refine pure_ (i := 18) (N := some 33) (v := ?_) (a' := ?_) #[true, true, true, true, true, true, true, true, true, true, true, true, true, true, true, true, true, true, true] rfl rfl (by kernel_rfl) (fun _ _ _ h => h) (Or.inl ⟨by rfl, ?_⟩) ?_ ?_
      rotate_left
      ·intro w'
       go_simp
       with_reducible rfl
      rotate_left
      ·simp only [Act.put, List.setIfInBounds_toArray, List.set_cons_zero, List.set_cons_succ]
       rfl
      refine done_ (n := 0) (by kernel_rfl) ?_
      go_wp2
      go_ret
      have hi := HHI.out
      exact ⟨by rw [HPF.out, range_not _ _ i.toNat (by omega) (by rw [HPO.out]; rfl)]; rfl, hHeld.2⟩
     ·rw [b2] at HPO
      have d2 : decide ((256 : Int) < (x.f1.length : Int)) = false := decide_eq_false (by have := of_decide_eq_true b2; omega)
      clear b2
      cases b3 : LT.any (isP x.f0)
      ·rw [b3] at HPO
       rw [b3] at HCN
       clear b1 b3
       go_wp2
       refine start_ (n := 19) (S := fun w' => (w'.cell? ⟨wr.heap.size, 0, none⟩ = some (.string x.f0) ∧ w'.cell? ⟨wr.heap.size, 1, none⟩ = some (.slice A1 x.f1.length c1)) ∧ Below w.heap.size w w') (ds := []) #[false, false, false, false, false, false, false, false, false, false, false, false, false, false, false, false, false, false, false] (by kernel_rfl) rfl rfl (held2_drew wr w _ _ _ HB.out) (fun hHeld => ?_)
       refine pure_ (i := 0) (N := some 15) (v := ?_) (a' := ?_) #[true, false, false, false, false, false, false, false, false, false, false, false, false, false, false, false, false, false, false] rfl rfl (by kernel_rfl) (fun _ _ _ h => h) (Or.inl ⟨by rfl, ?_⟩) ?_ ?_
       rotate_left
       ·intro w'
        go_simp
        with_reducible rfl
       rotate_left
       ·simp only [Act.put, List.setIfInBounds_toArray, List.set_cons_zero, List.set_cons_succ]
        rfl
       refine take_ (i := 1) (N := some 16) (v := (.string x.f0)) (a' := ?_) #[true, true, false, false, false, false, false, false, false, false, false, false, false, false, false, false, false, false, false] rfl rfl (by kernel_rfl) (fun _ _ _ h => h) (Or.inl ⟨by rfl, ?_⟩) hHeld ?_ ?_
       rotate_left
       rotate_left
       ·simp only [Act.put, List.setIfInBounds_toArray, List.set_cons_zero, List.set_cons_succ]
        rfl
       rotate_left
       ·rintro w' ⟨⟨s0, s1⟩, s2⟩
        go_simp
       refine one_ (i := 2) (N := some 17) #[true, true, true, false, false, false, false, false, false, false, false, false, false, false, false, false, false, false, false] rfl rfl (by kernel_rfl) (by decide) (fun K hK => ?_)
       refine goes_ Tryd.func41 (by kernel_rfl) rfl #[.string x.f0] (by rfl) rfl rfl (by first | rfl | (simp only [List.map_toArray, List.map_cons, List.map_nil]; rfl)) ?_
       refine (HNA.out _).mono ?_
       rintro e w2 ⟨rfl, hb⟩
       refine ⟨_, rfl, hK.out _ _ (held2_step hHeld hb) (fun hHeld => ?_)⟩
       clear hb
       clear hK K
       simp only [Act.put, List.setIfInBounds_toArray, List.set_cons_zero, List.set_cons_succ]
       refine pure_ (i := 3) (N := some 18) (v := ?_) (a' := ?_) #[true, true, true, true, false, false, false, false, false, false, false, false, false, false, false, false, false, false, false] rfl rfl (by kernel_rfl) (fun _ _ _ h => h) (Or.inl ⟨by rfl, ?_⟩) ?_ ?_
       rotate_left
       ·intro w'
        go_simp
        with_reducible rfl
       rotate_left
       ·simp only [Act.put, List.setIfInBounds_toArray, List.set_cons_zero, List.set_cons_succ]
        rfl
       refine pure_ (i := 4) (N := some 19) (v := ?_) (a' := ?_) #[true, true, true, true, true, false, false, false, false, false, false, false, false, false, false, false, false, false, false] rfl rfl (by kernel_rfl) (fun _ _ _ h => h) (Or.inl ⟨by rfl, ?_⟩) ?_ ?_
       rotate_left
       ·intro w'
        go_simp
        with_reducible rfl
       rotate_left
       ·simp only [Act.put, List.setIfInBounds_toArray, List.set_cons_zero, List.set_cons_succ]
        rfl
       refine pure_ (i := 5) (N := some 20) (v := ?_) (a' := ?_) #[true, true, true, true, true, true, false, false, false, false, false, false, false, false, false, false, false, false, false] rfl rfl (by kernel_rfl) (fun _ _ _ h => h) (Or.inl ⟨by rfl, ?_⟩) ?_ ?_
       rotate_left
       ·intro w'
        go_simp
        with_reducible rfl
       rotate_left
       ·simp only [Act.put, List.setIfInBounds_toArray, List.set_cons_zero, List.set_cons_succ]
        rfl
       refine take_ (i := 6) (N := some 21) (v := (.slice A1 x.f1.length c1)) (a' := ?_) #[true, true, true, true, true, true, true, false, false, false, false, false, false, false, false, false, false, false, false] rfl rfl (by kernel_rfl) (fun _ _ _ h => h) (Or.inl ⟨by rfl, ?_⟩) hHeld ?_ ?_
       rotate_left
       rotate_left
       ·simp only [Act.put, List.setIfInBounds_toArray, List.set_cons_zero, List.set_cons_succ]
        rfl
       rotate_left
       ·rintro w' ⟨⟨s0, s1⟩, s2⟩
        go_simp
       refine pure_ (i := 7) (N := some 22) (v := ?_) (a' := ?_) #[true, true, true, true, true, true, true, true, false, false, false, false, false, false, false, false, false, false, false] rfl rfl (by kernel_rfl) (fun _ _ _ h => h) (Or.inl ⟨by rfl, ?_⟩) ?_ ?_
       rotate_left
       ·intro w'
        go_simp
        with_reducible rfl
       rotate_left
       ·simp only [Act.put, List.setIfInBounds_toArray, List.set_cons_zero, List.set_cons_succ]
        rfl
       refine pure_ (i := 8) (N := some 23) (v := ?_) (a' := ?_) #[true, true, true, true, true, true, true, true, true, false, false, false, false, false, false, false, false, false, false] rfl rfl (by kernel_rfl) (fun _ _ _ h => h) (Or.inl ⟨by rfl, ?_⟩) ?_ ?_
       rotate_left
       ·intro w'
        go_simp
        with_reducible rfl
       rotate_left
       ·simp only [Act.put, List.setIfInBounds_toArray, List.set_cons_zero, List.set_cons_succ]
        rfl
       refine pure_ (i := 9) (N := some 24) (v := ?_) (a' := ?_) #[true, true, true, true, true, true, true, true, true, true, false, false, false, false, false, false, false, false, false] rfl rfl (by kernel_rfl) (fun _ _ _ h => h) (Or.inl ⟨by rfl, ?_⟩) ?_ ?_
       rotate_left
       ·intro w'
        go_simp
        with_reducible rfl
       rotate_left
       ·simp only [Act.put, List.setIfInBounds_toArray, List.set_cons_zero, List.set_cons_succ]
        rfl
       refine pure_ (i := 10) (N := some 25) (v := ?_) (a' := ?_) #[true, true, true, true, true, true, true, true, true, true, true, false, false, false, false, false, false, false, false] rfl rfl (by kernel_rfl) (fun _ _ _ h => h) (Or.inl ⟨by rfl, ?_⟩) ?_ ?_
       rotate_left
       ·intro w'
        go_simp
        with_reducible rfl
       rotate_left
       ·simp only [Act.put, List.setIfInBounds_toArray, List.set_cons_zero, List.set_cons_succ]
        rfl
       refine pure_ (i := 11) (N := some 26) (v := ?_) (a' := ?_) #[true, true, true, true, true, true, true, true, true, true, true, true, false, false, false, false, false, false, false] rfl rfl (by kernel_rfl) (fun _ _ _ h => h) (Or.inl ⟨by rfl, ?_⟩) ?_ ?_
       rotate_left
       ·intro w'
        go_simp
        with_reducible rfl
       rotate_left
       ·simp only [Act.put, List.setIfInBounds_toArray, List.set_cons_zero, List.set_cons_succ]
        rfl
       refine pure_ (i := 12) (N := some 27) (v := ?_) (a' := ?_) #[true, true, true, true, true, true, true, true, true, true, true, true, true, false, false, false, false, false, false] rfl rfl (by kernel_rfl) (fun _ _ _ h => h) (Or.inl ⟨by rfl, ?_⟩) ?_ ?_
       rotate_left
       ·intro w'
        go_simp
        with_reducible rfl
       rotate_left
       ·simp only [Act.put, List.setIfInBounds_toArray, List.set_cons_zero, List.set_cons_succ]
        rfl
       refine pure_ (i := 13) (N := some 28) (v := ?_) (a' := ?_) #[true, true, true, true, true, true, true, true, true, true, true, true, true, true, false, false, false, false, false] rfl rfl (by kernel_rfl) (fun _ _ _ h => h) (Or.inl ⟨by rfl, ?_⟩) ?_ ?_
       rotate_left
       ·intro w'
        go_simp
        with_reducible rfl
       rotate_left
       ·simp only [Act.put, List.setIfInBounds_toArray, List.set_cons_zero, List.set_cons_succ]
        rfl
       refine pure_ (i := 14) (N := some 29) (v := ?_) (a' := ?_) #[true, true, true, true, true, true, true, true, true, true, true, true, true, true, true, false, false, false, false] rfl rfl (by kernel_rfl) (fun _ _ _ h => h) (Or.inl ⟨by rfl, ?_⟩) ?_ ?_
       rotate_left
       ·intro w'
        go_simp
        with_reducible rfl
       rotate_left
       ·simp only [Act.put, List.setIfInBounds_toArray, List.set_cons_zero, List.set_cons_succ]
        rfl
       refine take_ (i := 15) (N := some 30) (v := (.string x.f0)) (a' := ?_) #[true, true, true, true, true, true, true, true, true, true, true, true, true, true, true, true, false, false, false] rfl rfl (by kernel_rfl) (fun _ _ _ h => h) (Or.inl ⟨by rfl, ?_⟩) hHeld ?_ ?_
       rotate_left
       rotate_left
       ·simp only [Act.put, List.setIfInBounds_toArray, List.set_cons_zero, List.set_cons_succ]
        rfl
       rotate_left
       ·rintro w' ⟨⟨s0, s1⟩, s2⟩
        go_simp
       refine one_ (i := 16) (N := some 31) #[true, true, true, true, true, true, true, true, true, true, true, true, true, true, true, true, true, false, false] rfl rfl (by kernel_rfl) (by decide) (fun K hK => ?_)
       refine goes_ Tryd.func67 (by kernel_rfl) rfl #[.string x.f0] (by rfl) rfl rfl (by first | rfl | (simp only [List.map_toArray, List.map_cons, List.map_nil]; rfl)) ?_
       refine (namedP_calls x.f0 _).mono ?_
       rintro e w3 ⟨gb, rfl, hgb, hh, hb⟩
       have HH := Aside0.mk hh
       refine ⟨_, rfl, hK.out _ _ (held2_step hHeld hb) (fun hHeld => ?_)⟩
       clear hgb hh hb
       clear hK K
       simp only [Act.put, List.setIfInBounds_toArray, List.set_cons_zero, List.set_cons_succ]
       refine one_ (i := 17) (N := some 32) #[true, true, true, true, true, true, true, true, true, true, true, true, true, true, true, true, true, true, false] rfl rfl (by kernel_rfl) (by decide) (fun K hK => ?_)
       refine goes_ Tryd.func66 (by kernel_rfl) rfl #[.slice (some ad) LT.length c, .func (.func 78) #[] #[.pointer (some ⟨gb, 0, none⟩)]] (by rfl) rfl rfl (by first | rfl | (simp only [List.map_toArray, List.map_cons, List.map_nil]; rfl)) ?_
       refine (HCN.out gb _ hHeld.2 HH.out).mono ?_
       rintro e w4 ⟨rfl, hb⟩
       refine ⟨_, rfl, hK.out _ _ (held2_step hHeld hb) (fun hHeld => ?_)⟩
       clear hb
       clear hK K
       simp only [Act.put, List.setIfInBounds_toArray, List.set_cons_zero, List.set_cons_succ]
       refine pure_ (i := 18) (N := some 33) (v := ?_) (a' := ?_) #[true, true, true, true, true, true, true, true, true, true, true, true, true, true, true, true, true, true, true] rfl rfl (by kernel_rfl) (fun _ _ _ h => h) (Or.inl ⟨by rfl, ?_⟩) ?_ ?_
       rotate_left
       ·intro w'
        go_simp
        with_reducible rfl
       rotate_left
       ·simp only [Act.put, List.setIfInBounds_toArray, List.set_cons_zero, List.set_cons_succ]
        rfl
       refine done_ (n := 0) (by kernel_rfl) ?_
       go_wp2
       go_roundg k1
       case measure => omega
       case rel =>
        have hi := HHI.out
        refine ⟨i + 1, rfl, ⟨by omega, by omega⟩, ⟨fun j hj => ?_⟩, ⟨hHeld.2⟩⟩
        by_cases hji : j = i.toNat
        ·subst hji
         rw [HPO.out]
         rfl
        ·exact HZ.out j (by omega)
      ·rw [b3] at HPO HCN
       clear b1 b3
       go_wp2
       refine start_ (n := 19) (S := fun w' => (w'.cell? ⟨wr.heap.size, 0, none⟩ = some (.string x.f0) ∧ w'.cell? ⟨wr.heap.size, 1, none⟩ = some (.slice A1 x.f1.length c1)) ∧ Below w.heap.size w w') (ds := []) #[false, false, false, false, false, false, false, false, false, false, false, false, false, false, false, false, false, false, false] (by kernel_rfl) rfl rfl (held2_drew wr w _ _ _ HB.out) (fun hHeld => ?_)
       refine pure_ (i := 0) (N := some 15) (v := ?_) (a' := ?_) #[true, false, false, false, false, false, false, false, false, false, false, false, false, false, false, false, false, false, false] rfl rfl (by kernel_rfl) (fun _ _ _ h => h) (Or.inl ⟨by rfl, ?_⟩) ?_ ?_
       rotate_left
       ·intro w'
        go_simp
        with_reducible rfl
       rotate_left
       ·simp only [Act.put, List.setIfInBounds_toArray, List.set_cons_zero, List.set_cons_succ]
        rfl
       refine take_ (i := 1) (N := some 16) (v := (.string x.f0)) (a' := ?_) #[true, true, false, false, false, false, false, false, false, false, false, false, false, false, false, false, false, false, false] rfl rfl (by kernel_rfl) (fun _ _ _ h => h) (Or.inl ⟨by rfl, ?_⟩) hHeld ?_ ?_
       rotate_left
       rotate_left
       ·simp only [Act.put, List.setIfInBounds_toArray, List.set_cons_zero, List.set_cons_succ]
        rfl
       rotate_left
       ·rintro w' ⟨⟨s0, s1⟩, s2⟩
        go_simp
       refine one_ (i := 2) (N := some 17) #[true, true, true, false, false, false, false, false, false, false, false, false, false, false, false, false, false, false, false] rfl rfl (by kernel_rfl) (by decide) (fun K hK => ?_)
       refine goes_ Tryd.func41 (by kernel_rfl) rfl #[.string x.f0] (by rfl) rfl rfl (by first | rfl | (simp only [List.map_toArray, List.map_cons, List.map_nil]; rfl)) ?_
       refine (HNA.out _).mono ?_
       rintro e w2 ⟨rfl, hb⟩
       refine ⟨_, rfl, hK.out _ _ (held2_step hHeld hb) (fun hHeld => ?_)⟩
       clear hb
       clear hK K
       simp only [Act.put, List.setIfInBounds_toArray, List.set_cons_zero, List.set_cons_succ]
       refine pure_ (i := 3) (N := some 18) (v := ?_) (a' := ?_) #[true, true, true, true, false, false, false, false, false, false, false, false, false, false, false, false, false, false, false] rfl rfl (by kernel_rfl) (fun _ _ _ h => h) (Or.inl ⟨by rfl, ?_⟩) ?_ ?_
       rotate_left
       ·intro w'
        go_simp
        with_reducible rfl
       rotate_left
       ·simp only [Act.put, List.setIfInBounds_toArray, List.set_cons_zero, List.set_cons_succ]
        rfl
       refine pure_ (i := 4) (N := some 19) (v := ?_) (a' := ?_) #[true, true, true, true, true, false, false, false, false, false, false, false, false, false, false, false, false, false, false] rfl rfl (by kernel_rfl) (fun _ _ _ h => h) (Or.inl ⟨by rfl, ?_⟩) ?_ ?_
       rotate_left
       ·intro w'
        go_simp
        with_reducible rfl
       rotate_left
       ·simp only [Act.put, List.setIfInBounds_toArray, List.set_cons_zero, List.set_cons_succ]
        rfl
       refine pure_ (i := 5) (N := some 20) (v := ?_) (a' := ?_) #[true, true, true, true, true, true, false, false, false, false, false, false, false, false, false, false, false, false, false] rfl rfl (by kernel_rfl) (fun _ _ _ h => h) (Or.inl ⟨by rfl, ?_⟩) ?_ ?_
       rotate_left
       ·intro w'
        go_simp
        with_reducible rfl
       rotate_left
       ·simp only [Act.put, List.setIfInBounds_toArray, List.set_cons_zero, List.set_cons_succ]
        rfl
       refine take_ (i := 6) (N := some 21) (v := (.slice A1 x.f1.length c1)) (a' := ?_) #[true, true, true, true, true, true, true, false, false, false, false, false, false, false, false, false, false, false, false] rfl rfl (by kernel_rfl) (fun _ _ _ h => h) (Or.inl ⟨by rfl, ?_⟩) hHeld ?_ ?_
       rotate_left
       rotate_left
       ·simp only [Act.put, List.setIfInBounds_toArray, List.set_cons_zero, List.set_cons_succ]
        rfl
       rotate_left
       ·rintro w' ⟨⟨s0, s1⟩, s2⟩
        go_simp
       refine pure_ (i := 7) (N := some 22) (v := ?_) (a' := ?_) #[true, true, true, true, true, true, true, true, false, false, false, false, false, false, false, false, false, false, false] rfl rfl (by kernel_rfl) (fun _ _ _ h => h) (Or.inl ⟨by rfl, ?_⟩) ?_ ?_
       rotate_left
       ·intro w'
        go_simp
        with_reducible rfl
       rotate_left
       ·simp only [Act.put, List.setIfInBounds_toArray, List.set_cons_zero, List.set_cons_succ]
        rfl
       refine pure_ (i := 8) (N := some 23) (v := ?_) (a' := ?_) #[true, true, true, true, true, true, true, true, true, false, false, false, false, false, false, false, false, false, false] rfl rfl (by kernel_rfl) (fun _ _ _ h => h) (Or.inl ⟨by rfl, ?_⟩) ?_ ?_
       rotate_left
       ·intro w'
        go_simp
        with_reducible rfl
       rotate_left
       ·simp only [Act.put, List.setIfInBounds_toArray, List.set_cons_zero, List.set_cons_succ]
        rfl
       refine pure_ (i := 9) (N := some 24) (v := ?_) (a' := ?_) #[true, true, true, true, true, true, true, true, true, true, false, false, false, false, false, false, false, false, false] rfl rfl (by kernel_rfl) (fun _ _ _ h => h) (Or.inl ⟨by rfl, ?_⟩) ?_ ?_
       rotate_left
       ·intro w'
        go_simp
        with_reducible rfl
       rotate_left
       ·simp only [Act.put, List.setIfInBounds_toArray, List.set_cons_zero, List.set_cons_succ]
        rfl
       refine pure_ (i := 10) (N := some 25) (v := ?_) (a' := ?_) #[true, true, true, true, true, true, true, true, true, true, true, false, false, false, false, false, false, false, false] rfl rfl (by kernel_rfl) (fun _ _ _ h => h) (Or.inl ⟨by rfl, ?_⟩) ?_ ?_
       rotate_left
       ·intro w'
        go_simp
        with_reducible rfl
       rotate_left
       ·simp only [Act.put, List.setIfInBounds_toArray, List.set_cons_zero, List.set_cons_succ]
        rfl
       refine pure_ (i := 11) (N := some 26) (v := ?_) (a' := ?_) #[true, true, true, true, true, true, true, true, true, true, true, true, false, false, false, false, false, false, false] rfl rfl (by kernel_rfl) (fun _ _ _ h => h) (Or.inl ⟨by rfl, ?_⟩) ?_ ?_
       rotate_left
       ·intro w'
        go_simp
        with_reducible rfl
       rotate_left
       ·simp only [Act.put, List.setIfInBounds_toArray, List.set_cons_zero, List.set_cons_succ]
        rfl
       refine pure_ (i := 12) (N := some 27) (v := ?_) (a' := ?_) #[true, true, true, true, true, true, true, true, true, true, true, true, true, false, false, false, false, false, false] rfl rfl (by kernel_rfl) (fun _ _ _ h => h) (Or.inl ⟨by rfl, ?_⟩) ?_ ?_
       rotate_left
       ·intro w'
        go_simp
        with_reducible rfl
       rotate_left
       ·simp only [Act.put, List.setIfInBounds_toArray, List.set_cons_zero, List.set_cons_succ]
        rfl
       refine pure_ (i := 13) (N := some 28) (v := ?_) (a' := ?_) #[true, true, true, true, true, true, true, true, true, true, true, true, true, true, false, false, false, false, false] rfl rfl (by kernel_rfl) (fun _ _ _ h => h) (Or.inl ⟨by rfl, ?_⟩) ?_ ?_
       rotate_left
       ·intro w'
        go_simp
        with_reducible rfl
       rotate_left
       ·simp only [Act.put, List.setIfInBounds_toArray, List.set_cons_zero, List.set_cons_succ]
        rfl
       refine pure_ (i := 14) (N := some 29) (v := ?_) (a' := ?_) #[true, true, true, true, true, true, true, true, true, true, true, true, true, true, true, false, false, false, false] rfl rfl (by kernel_rfl) (fun _ _ _ h => h) (Or.inl ⟨by rfl, ?_⟩) ?_ ?_
       rotate_left
       ·intro w'
        go_simp
        with_reducible rfl
       rotate_left
       ·simp only [Act.put, List.setIfInBounds_toArray, List.set_cons_zero, List.set_cons_succ]
        rfl
       refine take_ (i := 15) (N := some 30) (v := (.string x.f0)) (a' := ?_) #[true, true, true, true, true, true, true, true, true, true, true, true, true, true, true, true, false, false, false] rfl rfl (by kernel_rfl) (fun _ _ _ h => h) (Or.inl ⟨by rfl, ?_⟩) hHeld ?_ ?_
       rotate_left
       rotate_left
       ·simp only [Act.put, List.setIfInBounds_toArray, List.set_cons_zero, List.set_cons_succ]
        rfl
       rotate_left
       ·rintro w' ⟨⟨s0, s1⟩, s2⟩
        go_simp
       refine one_ (i := 16) (N := some 31) #[true, true, true, true, true, true, true, true, true, true, true, true, true, true, true, true, true, false, false] rfl rfl (by kernel_rfl) (by decide) (fun K hK => ?_)
       refine goes_ Tryd.func67 (by kernel_rfl) rfl #[.string x.f0] (by rfl) rfl rfl (by first | rfl | (simp only [List.map_toArray, List.map_cons, List.map_nil]; rfl)) ?_
       refine (namedP_calls x.f0 _).mono ?_
       rintro e w3 ⟨gb, rfl, hgb, hh, hb⟩
       have HH := Aside0.mk hh
       refine ⟨_, rfl, hK.out _ _ (held2_step hHeld hb) (fun hHeld => ?_)⟩
       clear hgb hh hb
       clear hK K
       simp only [Act.put, List.setIfInBounds_toArray, List.set_cons_zero, List.set_cons_succ]
       refine one_ (i := 17) (N := some 32) #[true, true, true, true, true, true, true, true, true, true, true, true, true, true, true, true, true, true, false] rfl rfl (by kernel_rfl) (by decide) (fun K hK => ?_)
       refine goes_ Tryd.func66 (by kernel_rfl) rfl #[.slice (some ad) LT.length c, .func (.func 78) #[] #[.pointer (some ⟨gb, 0, none⟩)]] (by rfl) rfl rfl (by first | rfl | (simp only [List.map_toArray, List.map_cons, List.map_nil]; rfl)) ?_
       refine (HCN.out gb _ hHeld.2 HH.out).mono ?_
       rintro e w4 ⟨rfl, hb⟩
       refine ⟨_, rfl, hK.out _ _ (held2_step hHeld hb) (fun hHeld => ?_)⟩
       clear hb
       clear hK K
       simp only [Act.put, List.setIfInBounds_toArray, List.set_cons_zero, List.set_cons_succ]
       refine pure_ (i := 18) (N := some 33) (v := ?_) (a' := ?_) #[true, true, true, true, true, true, true, true, true, true, true, true, true, true, true, true, true, true, true] rfl rfl (by kernel_rfl) (fun _ _ _ h => h) (Or.inl ⟨by rfl, ?_⟩) ?_ ?_
       rotate_left
       ·intro w'
        go_simp
        with_reducible rfl
       rotate_left
       ·simp only [Act.put, List.setIfInBounds_toArray, List.set_cons_zero, List.set_cons_succ]
        rfl
       refine done_ (n := 0) (by kernel_rfl) ?_
       go_wp2
       go_ret
       have hi := HHI.out
       exact ⟨by rw [HPF.out, range_not _ _ i.toNat (by omega) (by rw [HPO.out]; rfl)]; rfl, hHeld.2⟩
 ·have d1 : decide ((16 : Int) < (l.length : Int)) = true := decide_eq_true (by omega)
  have HPF := Aside0.mk (show propsF l = false by unfold propsF; rw [decide_eq_false h16, Bool.false_and])
  clear hC hc hm h16
  go_enter Tryd.func40, Tryd.ntmps40
  go_wp2
  go_ret
  exact ⟨by rw [HPF.out]; rfl, Below.refl _ _⟩
end Go.Proofs.YtnalcjgefbelnaaDoor.Q
end
section
namespace Go.Proofs.YtnalcjgefbelnaaDoor.Q
open Go.RowKit Go.Proofs.YtnalcjgefbelnaaDoorW.PrintWords Go.Proofs.YtnalcjgefbelnaaDoorW.PrintLast Go.Proofs.YtnalcjgefbelnaaDoorW.PrintMore
set_option linter.unusedVariables false
set_option linter.unusedSimpArgs false

attribute [local go_sem] max2_int min2_int max_two min_two max_three min_three max_four min_four
/-! ### slices_Equal_uint32_uint32: function 57 -/
def slices_Equal_uint32_uint32.l0 : Nat → List Int → List Int → Int → Int → Option (Bool)
 | 0, _, _, _, _ => none
 | k + 1, x0, x1, x12, x13 => if x13 < x12 then (if 0 ≤ x13 then (if x13 < (x0.length : Int) then (if x13 < (x1.length : Int) then (if (rd x0 x13) = (rd x1 x13) then (slices_Equal_uint32_uint32.l0 k x0 x1 x12 (wrap64 (x13 + 1))) else (some false)) else (none)) else (none)) else (none)) else (some true)
def slices_Equal_uint32_uint32.f (k : Nat) (l0 : List Int) (l1 : List Int) : Option (Bool) := if (l0.length : Int) = (l1.length : Int) then (slices_Equal_uint32_uint32.l0 k l0 l1 (l0.length : Int) 0) else (some false)
set_option maxHeartbeats 8000000 in
set_option maxRecDepth 100000 in
theorem slices_Equal_uint32_uint32.calls (k : Nat) (A0 : Option Addr) (c0 : Nat) (l0 : List Int) (A1 : Option Addr) (c1 : Nat) (l1 : List Int) (r : Bool) (w : World) (hr0 : Kd.C (Kd.int .u32) w A0 l0.length l0) (hc0 : l0.length ≤ c0) (hr1 : Kd.C (Kd.int .u32) w A1 l1.length l1) (hc1 : l1.length ≤ c1) (h : slices_Equal_uint32_uint32.f k l0 l1 = some r) :
  Calls Tryd.prog 57 #[.slice A0 l0.length c0, .slice A1 l1.length c1] w fun e w' => e = .returned (.bool r) ∧ Drawn0 w w' := by
 have HR0 := Aside0.mk hr0
 have HC0 := Aside0.mk hc0
 clear hr0 hc0
 have HR1 := Aside0.mk hr1
 have HC1 := Aside0.mk hc1
 clear hr1 hc1
 have H : (if (l0.length : Int) = (l1.length : Int) then (slices_Equal_uint32_uint32.l0 k l0 l1 (l0.length : Int) 0) else (some false)) = some r := h
 clear h
 by_cases c3 : (l0.length : Int) = (l1.length : Int)
 ·rw [if_pos c3] at H
  have c3b0 : ((l0.length : Int) == (l1.length : Int)) = true := beq_iff_eq.mpr c3
  have c3b1 : ((l0.length : Int) != (l1.length : Int)) = false := bne_eq_false_iff_eq.mpr c3
  have c3b2 : (l0.length == l1.length) = true := by first | simpa using c3 | (simp at c3 ⊢; omega)
  clear c3
  have H' := Aside0.mk H
  clear H
  go_enter Tryd.func57, Tryd.ntmps57
  go_wp2
  repeat (go_quiet (fail); try go_wp2)
  go_loopg [13] k (fun kq v13 w' => ∃ (x13_1 : Int), v13 = .int .i64 x13_1 ∧ Aside0 (slices_Equal_uint32_uint32.l0 kq l0 l1 (l0.length : Int) x13_1 = some r) ∧ Aside0 (kq ≤ k) ∧ Drawn0 w w')
  case atStart => exact ⟨(0), (by first | rfl | (simp; done) | (simp [*]; done)), H', ⟨Nat.le_refl _⟩, by repeat (first | exact Drawn0.refl _ | apply Drawn0.step)⟩
  case round =>
   clear H'
   try clear c1
   try clear p2
   try clear c3
   try clear c3b0
   try clear c3b1
   try clear c3b2
   obtain ⟨x13_1, rfl, HA, HK1, ⟨m1, rfl⟩⟩ := hrel
   cases gk with
   | zero => exact absurd HA.out (by simp [slices_Equal_uint32_uint32.l0])
   | succ k1 =>
    have H := HA.out
    clear HA
    simp only [slices_Equal_uint32_uint32.l0] at H
    by_cases c4 : x13_1 < (l0.length : Int)
    ·rw [if_pos c4] at H
     have c4b0 : decide (x13_1 < (l0.length : Int)) = true := decide_eq_true c4
     clear c4
     by_cases c5 : 0 ≤ x13_1
     ·rw [if_pos c5] at H
      have c5b0 : decide (0 ≤ x13_1) = true := decide_eq_true c5
      clear c5
      by_cases c6 : x13_1 < (l0.length : Int)
      ·rw [if_pos c6] at H
       have c6b0 : decide (x13_1 < (l0.length : Int)) = true := decide_eq_true c6
       clear c6
       by_cases c7 : x13_1 < (l1.length : Int)
       ·rw [if_pos c7] at H
        have c7b0 : decide (x13_1 < (l1.length : Int)) = true := decide_eq_true c7
        clear c7
        by_cases c8 : (rd l0 x13_1) = (rd l1 x13_1)
        ·rw [if_pos c8] at H
         have c8b0 : ((rd l0 x13_1) == (rd l1 x13_1)) = true := beq_iff_eq.mpr c8
         have c8b1 : ((rd l0 x13_1) != (rd l1 x13_1)) = false := bne_eq_false_iff_eq.mpr c8
         clear c8
         have H' := Aside0.mk H
         clear H
         have p58001 : 0 ≤ (x13_1 : Int) := of_decide_eq_true (by first | (with_reducible assumption) | assumption)
         have q58001 : x13_1 < (l0.length : Int) := of_decide_eq_true (by first | (with_reducible assumption) | assumption)
         obtain ⟨ad58001, e58001, hx58001_0⟩ := Kd.at_int HR0.out x13_1 p58001 q58001
         cases e58001
         replace p58001 := eq_true p58001
         replace q58001 := eq_true q58001
         have p58002 : 0 ≤ (x13_1 : Int) := of_decide_eq_true (by first | (with_reducible assumption) | assumption)
         have q58002 : x13_1 < (l1.length : Int) := of_decide_eq_true (by first | (with_reducible assumption) | assumption)
         obtain ⟨ad58002, e58002, hx58002_0⟩ := Kd.at_int HR1.out x13_1 p58002 q58002
         cases e58002
         replace p58002 := eq_true p58002
         replace q58002 := eq_true q58002
         go_wp2
         repeat (go_quiet (fail); try go_wp2)
         go_roundg k1
         case measure => have := HK1.out; omega
         case rel => exact ⟨(wrap64 (x13_1 + 1)), (by first | rfl | (simp; done) | (simp [*]; done)), H', ⟨by have := HK1.out; omega⟩, by repeat (first | exact Drawn0.refl _ | apply Drawn0.step)⟩
        ·rw [if_neg c8] at H
         have c8b0 : ((rd l0 x13_1) == (rd l1 x13_1)) = false := beq_eq_false_iff_ne.mpr c8
         have c8b1 : ((rd l0 x13_1) != (rd l1 x13_1)) = true := bne_iff_ne.mpr c8
         obtain rfl := Option.some.inj H
         have p58001 : 0 ≤ (x13_1 : Int) := of_decide_eq_true (by first | (with_reducible assumption) | assumption)
         have q58001 : x13_1 < (l0.length : Int) := of_decide_eq_true (by first | (with_reducible assumption) | assumption)
         obtain ⟨ad58001, e58001, hx58001_0⟩ := Kd.at_int HR0.out x13_1 p58001 q58001
         cases e58001
         replace p58001 := eq_true p58001
         replace q58001 := eq_true q58001
         have p58002 : 0 ≤ (x13_1 : Int) := of_decide_eq_true (by first | (with_reducible assumption) | assumption)
         have q58002 : x13_1 < (l1.length : Int) := of_decide_eq_true (by first | (with_reducible assumption) | assumption)
         obtain ⟨ad58002, e58002, hx58002_0⟩ := Kd.at_int HR1.out x13_1 p58002 q58002
         cases e58002
         replace p58002 := eq_true p58002
         replace q58002 := eq_true q58002
         go_wp2
         repeat (go_quiet (fail); try go_wp2)
         go_ret
         exact ⟨by first | rfl | (simp; done) | (simp [*]; done), by repeat (first | exact Drawn0.refl _ | apply Drawn0.step)⟩
       ·rw [if_neg c7] at H
        exact absurd H (by simp)
      ·rw [if_neg c6] at H
       exact absurd H (by simp)
     ·rw [if_neg c5] at H
      exact absurd H (by simp)
    ·rw [if_neg c4] at H
     have c4b0 : decide (x13_1 < (l0.length : Int)) = false := decide_eq_false c4
     clear c4
     obtain rfl := Option.some.inj H
     go_wp2
     repeat (go_quiet (fail); try go_wp2)
     go_ret
     exact ⟨by first | rfl | (simp; done) | (simp [*]; done), by repeat (first | exact Drawn0.refl _ | apply Drawn0.step)⟩
 ·rw [if_neg c3] at H
  have c3b0 : ((l0.length : Int) == (l1.length : Int)) = false := beq_eq_false_iff_ne.mpr c3
  have c3b1 : ((l0.length : Int) != (l1.length : Int)) = true := bne_iff_ne.mpr c3
  have c3b2 : (l0.length == l1.length) = false := by first | simpa using c3 | (simp at c3 ⊢; omega)
  obtain rfl := Option.some.inj H
  go_enter Tryd.func57, Tryd.ntmps57
  go_wp2
  repeat (go_quiet (fail); try go_wp2)
  go_ret
  exact ⟨by first | rfl | (simp; done) | (simp [*]; done), by repeat (first | exact Drawn0.refl _ | apply Drawn0.step)⟩

/-- THE ONE PURE STATEMENT of slices_Equal_uint32_uint32: yours. -/
def slices_Equal_uint32_uint32.Pure : Prop := ∀ (l0 : List Int) (l1 : List Int), l0.length ≤ maxLen → l0.length * 4 ≤ 140737488351232 → (∀ x ∈ l0, (Lit.int .u32 x).wf = true) → l1.length ≤ maxLen → l1.length * 4 ≤ 140737488351232 → (∀ x ∈ l1, (Lit.int .u32 x).wf = true) → ∃ k, slices_Equal_uint32_uint32.f k l0 l1 = some true

end Go.Proofs.YtnalcjgefbelnaaDoor.Q
end
section
set_option linter.unusedSimpArgs false
set_option linter.unusedVariables false
namespace Go.Proofs.YtnalcjgefbelnaaDoor.Q
open Go.RowKit Go.Proofs.YtnalcjgefbelnaaDoorW.PrintWords Go.Proofs.YtnalcjgefbelnaaDoorW.PrintLast Go.Proofs.YtnalcjgefbelnaaDoorW.PrintMore
attribute [local go_sem] max2_int min2_int max_two min_two max_three min_three max_four min_four
theorem int_drop (l : List Int) (i : Int) (h0 : 0 ≤ i) (h1 : i < l.length) : l.drop i.toNat = rd l i :: l.drop (i + 1).toNat := by
 rw [List.drop_eq_getElem_cons (show i.toNat < l.length by omega), show (i + 1).toNat = i.toNat + 1 by omega]
 simp [rd, List.getD_eq_getElem?_getD, List.getElem?_eq_getElem (show i.toNat < l.length by omega)]
theorem equal_go (a b : List Int) (hl : a.length = b.length) (hm : a.length ≤ 9223372036854775807) : ∀ (d k : Nat) (i : Int), 0 ≤ i → i + d = a.length → d < k → slices_Equal_uint32_uint32.l0 k a b a.length i = some (decide (a.drop i.toNat = b.drop i.toNat))
 | 0, k, i, h0, h1, hk => by
  obtain ⟨k, rfl⟩ : ∃ m, k = m + 1 := ⟨k - 1, by omega⟩
  rw [slices_Equal_uint32_uint32.l0, if_neg (by omega), List.drop_eq_nil_of_le (by omega), List.drop_eq_nil_of_le (by omega), decide_eq_true rfl]
 | d + 1, k, i, h0, h1, hk => by
  obtain ⟨k, rfl⟩ : ∃ m, k = m + 1 := ⟨k - 1, by omega⟩
  have hw : wrap64 (i + 1) = i + 1 := by unfold wrap64; omega
  rw [slices_Equal_uint32_uint32.l0, if_pos (by omega), if_pos h0, if_pos (by omega), if_pos (by omega), hw, equal_go a b hl hm d k (i + 1) (by omega) (by omega) (by omega), int_drop a i h0 (by omega), int_drop b i h0 (by omega)]
  by_cases he : rd a i = rd b i
  ·rw [if_pos he]
   congr 1
   refine decide_eq_decide.2 ⟨fun h => by rw [he, h], fun h => (List.cons.inj h).2⟩
  ·rw [if_neg he, decide_eq_false (fun h => he (List.cons.inj h).1)]
theorem equal_eq (a b : List Int) (hm : a.length ≤ 9223372036854775807) (k : Nat) (hk : a.length < k) : slices_Equal_uint32_uint32.f k a b = some (decide (a = b)) := by
 unfold slices_Equal_uint32_uint32.f
 by_cases hl : a.length = b.length
 ·rw [if_pos (by omega), equal_go a b hl hm a.length k 0 (Int.le_refl _) (by omega) hk]
  rfl
 ·rw [if_neg (by omega), decide_eq_false (fun h => hl (by rw [h]))]
/-- Has a device that parent, name and address? -/
def isN (p : Int) (s : ByteArray) (u : List Int) (x : S44) : Bool := (x.f2 == p) && ((x.f0.toList == s.toList) && decide (x.f1 = u))
theorem is_calls (p : Int) (s : ByteArray) (AU : Option Addr) (lu cu : Nat) (w : World) :
  Calls Tryd.prog 43 #[.int .i64 p, .string s, .slice AU lu cu] w fun e w' => ∃ g1 g2 g3, e = .returned (.func (.func 69) #[] #[.pointer (some ⟨g1, 0, none⟩), .pointer (some ⟨g2, 0, none⟩), .pointer (some ⟨g3, 0, none⟩)]) ∧ (w.heap.size ≤ g1 ∧ w.heap.size ≤ g2 ∧ w.heap.size ≤ g3) ∧ w'.heap[g1]? = some (.cells #[.int .i64 p] 3 (0, 0)) ∧ w'.heap[g2]? = some (.cells #[.string s] 9 (0, 0)) ∧ w'.heap[g3]? = some (.cells #[.slice AU lu cu] 31 (0, 0)) ∧ Below w.heap.size w w' := by
 have HB0 := Aside0.mk (Below.refl w.heap.size w)
 go_enter Tryd.func43, Tryd.ntmps43
 go_wp2_with (first
  | ((with_reducible refine gate_dst (N := 3) rfl ?_); refine box_event ?hg (N := 3) ?hd (cs := #[.int .i64 p]) (t := 3) ?hr ?_; (case hd => rfl); (case hg => rfl); (case hr => first | (go_simp; done) | (go_simp; rfl)); intro g1 hg1 w1 hbox hb; have K1 := Aside0.mk hbox; have B1 := Aside0.mk hb; have G1 := Aside0.mk (show w.heap.size ≤ g1 from hg1 ▸ Nat.le_refl _); clear hbox hb hg1)
  | ((with_reducible refine gate_dst (N := 4) rfl ?_); refine box_event ?hg (N := 4) ?hd (cs := #[.string s]) (t := 9) ?hr ?_; (case hd => rfl); (case hg => rfl); (case hr => first | (go_simp; done) | (go_simp; rfl)); intro g2 hg2 w2 hbox hb; have K2 := Aside0.mk hbox; have L1 := Aside0.mk ((hb.block g1 (blk_lt K1.out)).trans K1.out); have B2 := Aside0.mk (below_step B1.out hb); have G2 := Aside0.mk (show w.heap.size ≤ g2 from hg2 ▸ B1.out.size); clear hbox hb hg2)
  | ((with_reducible refine gate_dst (N := 5) rfl ?_); refine box_event ?hg (N := 5) ?hd (cs := #[.slice AU lu cu]) (t := 31) ?hr ?_; (case hd => rfl); (case hg => rfl); (case hr => first | (go_simp; done) | (go_simp; rfl)); intro g3 hg3 w3 hbox hb; have K3 := Aside0.mk hbox; have M1 := Aside0.mk ((hb.block g1 (blk_lt L1.out)).trans L1.out); have M2 := Aside0.mk ((hb.block g2 (blk_lt K2.out)).trans K2.out); have B3 := Aside0.mk (below_step B2.out hb); have G3 := Aside0.mk (show w.heap.size ≤ g3 from hg3 ▸ B2.out.size); clear hbox hb hg3))
 go_ret
 exact ⟨g1, g2, g3, rfl, ⟨G1.out, G2.out, G3.out⟩, M1.out, M2.out, K3.out, B3.out⟩
set_option maxHeartbeats 2000000 in
theorem isC_calls (x : S44) (A1 : Option Addr) (c1 : Nat) (A3 : Option Addr) (c3 : Nat) (A4 : Option Addr) (c4 : Nat) (p : Int) (s : ByteArray) (u : List Int) (AU : Option Addr) (cu : Nat) (g1 g2 g3 : Nat) (w : World) (h1 : w.heap[g1]? = some (.cells #[.int .i64 p] 3 (0, 0))) (h2 : w.heap[g2]? = some (.cells #[.string s] 9 (0, 0))) (h3 : w.heap[g3]? = some (.cells #[.slice AU u.length cu] 31 (0, 0)))
  (hx : Kd.C (Kd.int .u32) w A1 x.f1.length x.f1) (hxc : x.f1.length ≤ c1) (hu : Kd.C (Kd.int .u32) w AU u.length u) (huc : u.length ≤ cu) :
  Calls Tryd.prog 69 #[.agg #[.string x.f0, .slice A1 x.f1.length c1, .int .i64 x.f2, .slice A3 x.f3.length c3, .slice A4 x.f4.length c4], .pointer (some ⟨g1, 0, none⟩), .pointer (some ⟨g2, 0, none⟩), .pointer (some ⟨g3, 0, none⟩)] w fun e w' => e = .returned (.bool (isN p s u x)) ∧ Below w.heap.size w w' := by
 have hu91 := Tryd.underlying44
 have hm := Kd.C_max hx
 have hEq := fun (W : World) (hb : Below w.heap.size w W) => slices_Equal_uint32_uint32.calls 9223372036854775808 A1 c1 x.f1 AU cu u (decide (x.f1 = u)) W (Kd.C_below hx hb) hxc (Kd.C_below hu hb) huc (equal_eq x.f1 u (by omega) _ (by omega))
 have HEQ := Aside0.mk hEq
 have HL := Aside0.mk (⟨blk_lt h1, blk_lt h2, blk_lt h3⟩ : g1 < w.heap.size ∧ g2 < w.heap.size ∧ g3 < w.heap.size)
 have H1 := Aside0.mk h1
 have H2 := Aside0.mk h2
 have H3 := Aside0.mk h3
 have HI := Aside0.mk (show isN p s u x = ((x.f2 == p) && ((x.f0.toList == s.toList) && decide (x.f1 = u))) from rfl)
 clear h1 h2 h3 hx hxc hu huc hm hEq
 cases b1 : (x.f2 == p) <;> cases b2 : (x.f0.toList == s.toList)
 all_goals (
  rw [b1, b2] at HI
  go_enter Tryd.func69, Tryd.ntmps69
  go_wp2_with (first
   | ((with_reducible refine gate_dst (N := 4) rfl ?_); refine box_event ?hg (N := 4) ?hd (cs := #[.string x.f0, .slice A1 x.f1.length c1, .int .i64 x.f2, .slice A3 x.f3.length c3, .slice A4 x.f4.length c4]) (t := 44) ?hr ?_; (case hd => rfl); (case hg => rfl); (case hr => first | (go_simp; done) | (go_simp; rfl)); intro ga hga w1 hbox hb; have BK := Aside0.mk hbox; have hz0 := (blk_cell BK.out 0).trans rfl; have hz1 := (blk_cell BK.out 1).trans rfl; have hz2 := (blk_cell BK.out 2).trans rfl; have hf0 := blk_frozen BK.out 0; have hf1 := blk_frozen BK.out 1; have hf2 := blk_frozen BK.out 2; have hy1 : w1.cell? ⟨g1, 0, none⟩ = some (.int .i64 p) := (hb.cell (p := ⟨g1, 0, none⟩) HL.out.1).trans ((blk_cell H1.out 0).trans rfl); have hy2 : w1.cell? ⟨g2, 0, none⟩ = some (.string s) := (hb.cell (p := ⟨g2, 0, none⟩) HL.out.2.1).trans ((blk_cell H2.out 0).trans rfl); have hy3 : w1.cell? ⟨g3, 0, none⟩ = some (.slice AU u.length cu) := (hb.cell (p := ⟨g3, 0, none⟩) HL.out.2.2).trans ((blk_cell H3.out 0).trans rfl); have HB := Aside0.mk hb; clear hbox hb hga)
   | (go_at_call 57; (with_reducible refine (HEQ.out _ HB.out).mono ?_); rintro e w2 ⟨rfl, hd⟩; obtain ⟨n, rfl⟩ := hd.out; clear hd))
  go_ret
  exact ⟨by rw [HI.out]; rfl, by first | exact HB.out | exact pw_below_drewN HB.out _⟩)
set_option maxHeartbeats 2000000 in
set_option maxRecDepth 100000 in
theorem indexNode_calls (p : Int) (s : ByteArray) (u : List Int) (AU : Option Addr) (cu : Nat) (g1 g2 g3 : Nat) (A : Option Addr) (c : Nat) (l : List S44) (w : World) (hC : Kd.C k44 w A l.length l) (h1 : w.heap[g1]? = some (.cells #[.int .i64 p] 3 (0, 0))) (h2 : w.heap[g2]? = some (.cells #[.string s] 9 (0, 0))) (h3 : w.heap[g3]? = some (.cells #[.slice AU u.length cu] 31 (0, 0))) (hu : Kd.C (Kd.int .u32) w AU u.length u) (huc : u.length ≤ cu) :
  Calls Tryd.prog 55 #[.slice A l.length c, .func (.func 69) #[] #[.pointer (some ⟨g1, 0, none⟩), .pointer (some ⟨g2, 0, none⟩), .pointer (some ⟨g3, 0, none⟩)]] w fun e w' => e = .returned (.int .i64 (idxP (isN p s u) l)) ∧ Below w.heap.size w w' := by
 have hu91 := Tryd.underlying44
 have t1 := blk_lt h1
 have t2 := blk_lt h2
 have t3 := blk_lt h3
 have HC := Aside0.mk hC
 have HF := Aside0.mk (fun (x : S44) (A1 : Option Addr) (c1 : Nat) (A3 : Option Addr) (c3 : Nat) (A4 : Option Addr) (c4 : Nat) (W : World) (hb : Below w.heap.size w W) (hx : Kd.C (Kd.int .u32) W A1 x.f1.length x.f1) (hxc : x.f1.length ≤ c1) => isC_calls x A1 c1 A3 c3 A4 c4 p s u AU cu g1 g2 g3 W (by rw [hb.block g1 t1]; exact h1) (by rw [hb.block g2 t2]; exact h2) (by rw [hb.block g3 t3]; exact h3) hx hxc (Kd.C_below hu hb) huc)
 clear hC h1 h2 h3 hu huc
 go_enter Tryd.func55, Tryd.ntmps55
 go_wp2
 go_loopg [8] l.length (fun kq v8 w' => ∃ i : Int, v8 = .int .i64 i ∧ Aside0 (0 ≤ i ∧ i + kq = l.length) ∧ Aside0 (∀ j : Nat, j < i.toNat → (isN p s u) (l.getD j z44) = false) ∧ Aside0 (Below w.heap.size w w'))
 case atStart => exact ⟨0, rfl, ⟨by omega, by omega⟩, ⟨fun j hj => absurd hj (by simp)⟩, ⟨Below.refl _ _⟩⟩
 case round =>
  obtain ⟨i, rfl, HI, HZ, HB⟩ := hrel
  cases gk with
  | zero =>
   have hlt : decide (i < (l.length : Int)) = false := decide_eq_false (by have := HI.out; omega)
   go_wp2
   go_ret
   have hz := HZ.out
   have hi := HI.out
   refine ⟨?_, HB.out⟩
   rw [idxP_drop (isN p s u) z44 l i.toNat hz, List.drop_eq_nil_of_le (by omega)]
   rfl
  | succ k1 =>
   have hi := HI.out
   have hm := Kd.C_max HC.out
   have hlt : decide (i < (l.length : Int)) = true := decide_eq_true (by omega)
   have p1 : (0 ≤ i) = True := eq_true (by omega)
   have p2 : (i < (l.length : Int)) = True := eq_true (by omega)
   obtain ⟨ad, A1, c1, A3, c3, A4, c4, eA, hx0, hx1, hx2, hx3, hx4, hl1, hg1, hl3, hg3, hl4, hg4⟩ := at_T44 (Kd.C_below HC.out HB.out) i (by omega) (by omega)
   cases eA
   have HGD := Aside0.mk (show rd_T44 l i = l.getD i.toNat z44 from rfl)
   have HIN := Aside0.mk (show (isN p s u) (rd_T44 l i) = true → idxP (isN p s u) l = i from fun h => by
    rw [idxP_here (isN p s u) z44 l i.toNat HZ.out (by omega) h]
    omega)
   have hwr : IntKind.i64.wrap (i + 1) = i + 1 := (i64_w _).trans (by unfold wrap64; omega)
   have hwr2 : wrap64 (i + 1) = i + 1 := by unfold wrap64; omega
   have HG1 := Aside0.mk hg1; have HL1 := Aside0.mk hl1; clear hl1 hg1 hl3 hg3 hl4 hg4
   clear hi hm
   obtain ⟨b, hb0⟩ : ∃ b, b = (isN p s u) (rd_T44 l i) := ⟨_, rfl⟩
   have HBP := Aside0.mk hb0
   cases b with
   | true =>
    clear hb0
    go_wp2_with (first
     | (go_at_call 69; (with_reducible refine (HF.out (rd_T44 l i) A1 c1 A3 c3 A4 c4 _ HB.out HG1.out HL1.out).mono ?_); rintro e w2 ⟨rfl, hb⟩; rw [← HBP.out]; have HB2 := Aside0.mk (below_step HB.out hb); clear hb))
    go_ret
    exact ⟨by rw [HIN.out HBP.out.symm]; rfl, HB2.out⟩
   | false =>
    clear hb0
    go_wp2_with (first
     | (go_at_call 69; (with_reducible refine (HF.out (rd_T44 l i) A1 c1 A3 c3 A4 c4 _ HB.out HG1.out HL1.out).mono ?_); rintro e w2 ⟨rfl, hb⟩; rw [← HBP.out]; have HB2 := Aside0.mk (below_step HB.out hb); clear hb))
    go_roundg k1
    case measure => omega
    case rel =>
     have hi := HI.out
     refine ⟨i + 1, rfl, ⟨by omega, by omega⟩, ⟨fun j hj => ?_⟩, HB2⟩
     by_cases hji : j = i.toNat
     ·subst hji
      rw [← HGD.out]
      exact HBP.out.symm
     ·exact HZ.out j (by omega)
theorem containsNode_calls (p : Int) (s : ByteArray) (u : List Int) (AU : Option Addr) (cu : Nat) (g1 g2 g3 : Nat) (A : Option Addr) (c : Nat) (l : List S44) (w : World) (hC : Kd.C k44 w A l.length l) (h1 : w.heap[g1]? = some (.cells #[.int .i64 p] 3 (0, 0))) (h2 : w.heap[g2]? = some (.cells #[.string s] 9 (0, 0))) (h3 : w.heap[g3]? = some (.cells #[.slice AU u.length cu] 31 (0, 0))) (hu : Kd.C (Kd.int .u32) w AU u.length u) (huc : u.length ≤ cu) :
  Calls Tryd.prog 42 #[.slice A l.length c, .func (.func 69) #[] #[.pointer (some ⟨g1, 0, none⟩), .pointer (some ⟨g2, 0, none⟩), .pointer (some ⟨g3, 0, none⟩)]] w fun e w' => e = .returned (.bool (l.any (isN p s u))) ∧ Below w.heap.size w w' := by
 have HIX := Aside0.mk (indexNode_calls p s u AU cu g1 g2 g3 A c l w hC h1 h2 h3 hu huc)
 have HAN := Aside0.mk (idxP_any (isN p s u) l)
 clear hC h1 h2 h3 hu huc
 go_enter Tryd.func42, Tryd.ntmps42
 go_wp2_with (go_at_call 55; refine HIX.out.mono ?_; rintro e w1 ⟨rfl, hb⟩; have HB := Aside0.mk hb; clear hb)
 go_ret
 exact ⟨by rw [← HAN.out]; rfl, HB.out⟩
end Go.Proofs.YtnalcjgefbelnaaDoor.Q
end
section
set_option linter.unusedSimpArgs false
set_option linter.unusedVariables false
namespace Go.Proofs.YtnalcjgefbelnaaDoor.Q
open Go.RowKit Go.Proofs.YtnalcjgefbelnaaDoorW.PrintWords Go.Proofs.YtnalcjgefbelnaaDoorW.PrintLast Go.Proofs.YtnalcjgefbelnaaDoorW.PrintMore
attribute [local go_sem] max2_int min2_int max_two min_two max_three min_three max_four min_four
def rootOk (x : S44) : Bool := (x.f0.toList == ([] : List UInt8)) && (((x.f1.length : Int) == 0) && (x.f2 == -1))
def kidOk (T : List S44) (i : Int) (x : S44) : Bool := namedF x.f0 && (!decide (4 < (x.f1.length : Int)) && (!decide (x.f2 < 0) && (!decide (i ≤ x.f2) && !T.any (isN x.f2 x.f0 x.f1))))
def nodeOk (t : List S44) (i : Nat) : Bool := (!decide (16 < ((t.getD i z44).f4.length : Int)) && propsF (t.getD i z44).f3) && (if (i : Int) == 0 then rootOk (t.getD i z44) else kidOk (t.take i) i (t.getD i z44))
def treeF (t : List S44) : Bool := !((t.length : Int) == 0) && (!decide (32 < (t.length : Int)) && (List.range t.length).all (nodeOk t))
theorem info44s : (Tryd.prog.info? 44).map (·.size) = some 5 := by kernel_rfl
theorem box_new5 (wr : World) (a b c d e : Value) (t : Nat) : (wr.alloc (.cells #[a, b, c, d, e] t)).heap[wr.heap.size]? = some (.cells #[a, b, c, d, e] t (0, 0)) := heap_alloc_new wr _
theorem held3_start {g : Nat} {a b c d e : Value} {t : Nat} {w W : World} (hh : W.heap[g]? = some (.cells #[a, b, c, d, e] t (0, 0))) (hb : Below w.heap.size w W) : ((W.drew.cell? ⟨g, 0, none⟩ = some a ∧ W.drew.cell? ⟨g, 1, none⟩ = some b ∧ W.drew.cell? ⟨g, 2, none⟩ = some c) ∧ Below w.heap.size w W.drew) :=
 ⟨⟨blk_cell hh 0, blk_cell hh 1, blk_cell hh 2⟩, below_drew1 hb⟩
theorem held3_step {g : Nat} {a b c : Value} {w W w2 : World} (h : (W.cell? ⟨g, 0, none⟩ = some a ∧ W.cell? ⟨g, 1, none⟩ = some b ∧ W.cell? ⟨g, 2, none⟩ = some c) ∧ Below w.heap.size w W) (hb : Below W.heap.size W w2) : (w2.cell? ⟨g, 0, none⟩ = some a ∧ w2.cell? ⟨g, 1, none⟩ = some b ∧ w2.cell? ⟨g, 2, none⟩ = some c) ∧ Below w.heap.size w w2 :=
 ⟨⟨(hb.cell (World.block_lt_of_cell? _ _ h.1.1)).trans h.1.1, (hb.cell (World.block_lt_of_cell? _ _ h.1.2.1)).trans h.1.2.1, (hb.cell (World.block_lt_of_cell? _ _ h.1.2.2)).trans h.1.2.2⟩, below_step h.2 hb⟩
set_option maxHeartbeats 16000000 in
set_option maxRecDepth 100000 in
theorem treeFormed_calls (A : Option Addr) (c : Nat) (l : List S44) (w : World) (hC : Kd.C k44 w A l.length l) (hc : l.length ≤ c) :
  Calls Tryd.prog 12 #[.slice A l.length c] w fun e w' => e = .returned (.bool (treeF l)) ∧ Below w.heap.size w w' := by
 have hu91 := Tryd.underlying44
 have hm := Kd.C_max hC
 cases h0 : ((l.length : Int) == 0)
 ·cases h32 : decide (32 < (l.length : Int))
  ·have HPF := Aside0.mk (show treeF l = (List.range l.length).all (nodeOk l) by unfold treeF; rw [h0, h32]; rfl)
   have HC := Aside0.mk hC
   have HCC := Aside0.mk hc
   have H32 := Aside0.mk (of_decide_eq_false h32)
   have HNM := Aside0.mk (fun (s : ByteArray) (W : World) => prop_Named.calls 400 s (namedF s) W (named_eq 400 (by decide) s))
   have HPR := Aside0.mk (fun (A : Option Addr) (c : Nat) (l : List S53) (W : World) (hC : Kd.C k53 W A l.length l) (hc : l.length ≤ c) => propsFormed_calls A c l W hC hc)
   have HB0 := Aside0.mk (Below.refl w.heap.size w)
   have mixed : Tryd.prog.follows Departure.mixedOrders = true := by kernel_rfl
   clear hC hc hm
   go_enter Tryd.func12, Tryd.ntmps12
   go_wp2
   go_loopg [15] l.length (fun kq v8 w' => ∃ i : Int, v8 = .int .i64 i ∧ Aside0 (0 ≤ i ∧ i + kq = l.length) ∧ Aside0 (∀ j : Nat, j < i.toNat → nodeOk l j = true) ∧ Aside0 (Below w.heap.size w w'))
   case atStart => exact ⟨0, rfl, ⟨by omega, by omega⟩, ⟨fun j hj => absurd hj (by simp)⟩, ⟨Below.refl _ _⟩⟩
   case round =>
    obtain ⟨i, rfl, HI, HZ, HB⟩ := hrel
    cases gk with
    | zero =>
     have hlt : decide (i < (l.length : Int)) = false := decide_eq_false (by have := HI.out; omega)
     go_wp2
     go_ret
     have hz := HZ.out
     have hi := HI.out
     exact ⟨by rw [HPF.out, range_all _ _ (fun j hj => hz j (by omega))]; rfl, HB.out⟩
    | succ k1 =>
     have hi := HI.out
     have hlt : decide (i < (l.length : Int)) = true := decide_eq_true (by omega)
     have p1 : (0 ≤ i) = True := eq_true (by omega)
     have p2 : (i < (l.length : Int)) = True := eq_true (by omega)
     obtain ⟨ad, A1, c1, A3, c3, A4, c4, eA, hx0, hx1, hx2, hx3, hx4, hl1, hg1, hl3, hg3, hl4, hg4⟩ := at_T44 (Kd.C_below HC.out HB.out) i (by omega) (by omega)
     cases eA
     have hwr : IntKind.i64.wrap (i + 1) = i + 1 := (i64_w _).trans (by unfold wrap64; have := H32.out; omega)
     have hwr2 : wrap64 (i + 1) = i + 1 := by unfold wrap64; have := H32.out; omega
     have hcut := run_cut_hi (P := Tryd.prog) Tryd.underlying22 info44s (some ad) l.length c i (by omega) (by have := HCC.out; omega)
     have HTK := Aside0.mk (fun (W : World) (hb : Below w.heap.size w W) => (Kd.C_take (Kd.C_below HC.out hb) (by omega) : Kd.C k44 W (some ad) (l.take i.toNat).length (l.take i.toNat)))
     have HTL := Aside0.mk (show (l.take i.toNat).length = i.toNat by rw [List.length_take]; omega)
     have HPO := Aside0.mk (show nodeOk l i.toNat = ((!decide (16 < ((rd_T44 l i).f4.length : Int)) && propsF (rd_T44 l i).f3) && (if i == 0 then rootOk (rd_T44 l i) else kidOk (l.take i.toNat) i (rd_T44 l i))) by
      have e : ((i.toNat : Nat) : Int) = i := by omega
      unfold nodeOk
      rw [e]
      rfl)
     have HG1 := Aside0.mk hg1
     have HL1 := Aside0.mk hl1
     have HPX := Aside0.mk (fun (W : World) (hb : Below wr.heap.size wr W) => HPR.out A3 c3 (rd_T44 l i).f3 W (Kd.C_below hg3 hb) hl3)
     generalize rd_T44 l i = x at *
     rw [← HTL.out] at hcut
     have HHI := Aside0.mk hi
     have HCN := Aside0.mk (fun (g1 g2 g3 : Nat) (W : World) (hb : Below w.heap.size w W) (hbr : Below wr.heap.size wr W) (h1 : W.heap[g1]? = some (.cells #[.int .i64 x.f2] 3 (0, 0))) (h2 : W.heap[g2]? = some (.cells #[.string x.f0] 9 (0, 0))) (h3 : W.heap[g3]? = some (.cells #[.slice A1 x.f1.length c1] 31 (0, 0))) => containsNode_calls x.f2 x.f0 x.f1 A1 c1 g1 g2 g3 (some ad) c (l.take i.toNat) W (HTK.out W hb) h1 h2 h3 (Kd.C_below HG1.out hbr) HL1.out)
     have HNA := Aside0.mk (fun W : World => HNM.out x.f0 W)
     have HBXN := Aside0.mk (box_new5 wr (.string x.f0) (.slice A1 x.f1.length c1) (.int .i64 x.f2) (.slice A3 x.f3.length c3) (.slice A4 x.f4.length c4) 44)
     have HBW := Aside0.mk (below_alloc (Below.refl wr.heap.size wr) (.cells #[.string x.f0, .slice A1 x.f1.length c1, .int .i64 x.f2, .slice A3 x.f3.length c3, .slice A4 x.f4.length c4] 44 (0, 0)))
     generalize l.take i.toNat = LT at *
     clear hi hl1 hg1 hl3 hg3 hl4 hg4
     cases e0 : decide (16 < (x.f4.length : Int))
     ·cases b1 : propsF x.f3
      ·rw [e0, b1] at HPO
       rw [b1] at HPX
       go_wp2_with (first
        | (go_at_call 40; (with_reducible refine (HPX.out _ HBW.out).mono ?_); rintro e w2 ⟨rfl, hb⟩; have HBX := Aside0.mk ((hb.block wr.heap.size (blk_lt HBXN.out)).trans HBXN.out); have HB2 := Aside0.mk (below_step HBW.out hb); have hz0 := (blk_cell HBX.out 0).trans rfl; have hz1 := (blk_cell HBX.out 1).trans rfl; have hz2 := (blk_cell HBX.out 2).trans rfl; clear hb))
       go_ret
       have hi := HHI.out
       exact ⟨by rw [HPF.out, range_not _ _ i.toNat (by omega) (by rw [HPO.out]; rfl)]; rfl, below_step HB.out HB2.out⟩
      ·rw [b1] at HPX
       cases e1 : (i == 0)
       ·rw [e0, b1, e1] at HPO
        have HKO := Aside0.mk (show kidOk LT i x = (namedF x.f0 && (!decide (4 < (x.f1.length : Int)) && (!decide (x.f2 < 0) && (!decide (i ≤ x.f2) && !LT.any (isN x.f2 x.f0 x.f1))))) from rfl)
        clear b1
        cases b2 : namedF x.f0
        ·rw [b2] at HKO HNA
         clear b2
         go_wp2_with (first
          | (go_at_call 40; (with_reducible refine (HPX.out _ HBW.out).mono ?_); rintro e w2 ⟨rfl, hb⟩; have HBX := Aside0.mk ((hb.block wr.heap.size (blk_lt HBXN.out)).trans HBXN.out); have HB2 := Aside0.mk (below_step HBW.out hb); have hz0 := (blk_cell HBX.out 0).trans rfl; have hz1 := (blk_cell HBX.out 1).trans rfl; have hz2 := (blk_cell HBX.out 2).trans rfl; clear hb)
          | (go_at_call 41; (with_reducible refine (HNA.out _).mono ?_); rintro e w3 ⟨rfl, hb⟩; clear hz0 hz1 hz2; have HBX3 := Aside0.mk ((hb.block wr.heap.size (blk_lt HBX.out)).trans HBX.out); have HB3 := Aside0.mk (below_step HB2.out hb); have hz0 := (blk_cell HBX3.out 0).trans rfl; have hz1 := (blk_cell HBX3.out 1).trans rfl; have hz2 := (blk_cell HBX3.out 2).trans rfl; clear hb))
         go_ret
         have hi := HHI.out
         exact ⟨by rw [HPF.out, range_not _ _ i.toNat (by omega) (by rw [HPO.out, HKO.out]; rfl)]; rfl, below_step HB.out HB3.out⟩
        ·rw [b2] at HKO HNA
         clear b2
         cases e4 : decide (4 < (x.f1.length : Int))
         ·rw [e4] at HKO
          cases e5 : decide (x.f2 < 0)
          ·rw [e5] at HKO
           cases e6 : decide (i ≤ x.f2)
           ·rw [e6] at HKO
            cases b3 : LT.any (isN x.f2 x.f0 x.f1)
            ·rw [b3] at HKO HCN
             clear b3
             go_wp2_with (first
              | (go_at_call 40; (with_reducible refine (HPX.out _ HBW.out).mono ?_); rintro e w2 ⟨rfl, hb⟩; have HBX := Aside0.mk ((hb.block wr.heap.size (blk_lt HBXN.out)).trans HBXN.out); have HB2 := Aside0.mk (below_step HBW.out hb); have hz0 := (blk_cell HBX.out 0).trans rfl; have hz1 := (blk_cell HBX.out 1).trans rfl; have hz2 := (blk_cell HBX.out 2).trans rfl; clear hb)
              | (go_at_call 41; (with_reducible refine (HNA.out _).mono ?_); rintro e w3 ⟨rfl, hb⟩; clear hz0 hz1 hz2; have HBX3 := Aside0.mk ((hb.block wr.heap.size (blk_lt HBX.out)).trans HBX.out); have HB3 := Aside0.mk (below_step HB2.out hb); have hz0 := (blk_cell HBX3.out 0).trans rfl; have hz1 := (blk_cell HBX3.out 1).trans rfl; have hz2 := (blk_cell HBX3.out 2).trans rfl; clear hb))
             refine start_ (n := 12) (S := fun w' => (w'.cell? ⟨wr.heap.size, 0, none⟩ = some (.string x.f0) ∧ w'.cell? ⟨wr.heap.size, 1, none⟩ = some (.slice A1 x.f1.length c1) ∧ w'.cell? ⟨wr.heap.size, 2, none⟩ = some (.int .i64 x.f2)) ∧ Below wr.heap.size wr w') (ds := []) #[false, false, false, false, false, false, false, false, false, false, false, false] (by kernel_rfl) rfl rfl (held3_start HBX3.out HB3.out) (fun hHeld => ?_)
             refine pure_ (i := 0) (N := some 71) (v := ?_) (a' := ?_) #[true, false, false, false, false, false, false, false, false, false, false, false] rfl rfl (by kernel_rfl) (fun _ _ _ h => h) (Or.inl ⟨by rfl, ?_⟩) ?_ ?_
             rotate_left
             ·intro w'
              go_simp
              with_reducible rfl
             rotate_left
             ·simp only [Act.put, List.setIfInBounds_toArray, List.set_cons_zero, List.set_cons_succ]
              rfl
             refine pure_ (i := 1) (N := some 72) (v := ?_) (a' := ?_) #[true, true, false, false, false, false, false, false, false, false, false, false] rfl rfl (by kernel_rfl) (fun _ _ _ h => h) (Or.inl ⟨by rfl, ?_⟩) ?_ ?_
             rotate_left
             ·intro w'
              go_simp
              with_reducible rfl
             rotate_left
             ·simp only [Act.put, List.setIfInBounds_toArray, List.set_cons_zero, List.set_cons_succ]
              rfl
             refine pure_ (i := 2) (N := some 73) (v := ?_) (a' := ?_) #[true, true, true, false, false, false, false, false, false, false, false, false] rfl rfl (by kernel_rfl) (fun _ _ _ h => h) (Or.inl ⟨by rfl, ?_⟩) ?_ ?_
             rotate_left
             ·intro w'
              go_simp
              with_reducible rfl
             rotate_left
             ·simp only [Act.put, List.setIfInBounds_toArray, List.set_cons_zero, List.set_cons_succ]
              rfl
             refine pure_ (i := 3) (N := some 74) (v := ?_) (a' := ?_) #[true, true, true, true, false, false, false, false, false, false, false, false] rfl rfl (by kernel_rfl) (fun _ _ _ h => h) (Or.inl ⟨by rfl, ?_⟩) ?_ ?_
             rotate_left
             ·intro w'
              go_simp
              with_reducible rfl
             rotate_left
             ·simp only [Act.put, List.setIfInBounds_toArray, List.set_cons_zero, List.set_cons_succ]
              rfl
             refine take_ (i := 4) (N := some 75) (v := (.int .i64 x.f2)) (a' := ?_) #[true, true, true, true, true, false, false, false, false, false, false, false] rfl rfl (by kernel_rfl) (fun _ _ _ h => h) (Or.inl ⟨by rfl, ?_⟩) hHeld ?_ ?_
             rotate_left
             rotate_left
             ·simp only [Act.put, List.setIfInBounds_toArray, List.set_cons_zero, List.set_cons_succ]
              rfl
             rotate_left
             ·rintro w' ⟨⟨s0, s1, s2⟩, s3⟩
              go_simp
             refine pure_ (i := 5) (N := some 76) (v := ?_) (a' := ?_) #[true, true, true, true, true, true, false, false, false, false, false, false] rfl rfl (by kernel_rfl) (fun _ _ _ h => h) (Or.inl ⟨by rfl, ?_⟩) ?_ ?_
             rotate_left
             ·intro w'
              go_simp
              with_reducible rfl
             rotate_left
             ·simp only [Act.put, List.setIfInBounds_toArray, List.set_cons_zero, List.set_cons_succ]
              rfl
             refine take_ (i := 6) (N := some 77) (v := (.string x.f0)) (a' := ?_) #[true, true, true, true, true, true, true, false, false, false, false, false] rfl rfl (by kernel_rfl) (fun _ _ _ h => h) (Or.inl ⟨by rfl, ?_⟩) hHeld ?_ ?_
             rotate_left
             rotate_left
             ·simp only [Act.put, List.setIfInBounds_toArray, List.set_cons_zero, List.set_cons_succ]
              rfl
             rotate_left
             ·rintro w' ⟨⟨s0, s1, s2⟩, s3⟩
              go_simp
             refine pure_ (i := 7) (N := some 78) (v := ?_) (a' := ?_) #[true, true, true, true, true, true, true, true, false, false, false, false] rfl rfl (by kernel_rfl) (fun _ _ _ h => h) (Or.inl ⟨by rfl, ?_⟩) ?_ ?_
             rotate_left
             ·intro w'
              go_simp
              with_reducible rfl
             rotate_left
             ·simp only [Act.put, List.setIfInBounds_toArray, List.set_cons_zero, List.set_cons_succ]
              rfl
             refine take_ (i := 8) (N := some 79) (v := (.slice A1 x.f1.length c1)) (a' := ?_) #[true, true, true, true, true, true, true, true, true, false, false, false] rfl rfl (by kernel_rfl) (fun _ _ _ h => h) (Or.inl ⟨by rfl, ?_⟩) hHeld ?_ ?_
             rotate_left
             rotate_left
             ·simp only [Act.put, List.setIfInBounds_toArray, List.set_cons_zero, List.set_cons_succ]
              rfl
             rotate_left
             ·rintro w' ⟨⟨s0, s1, s2⟩, s3⟩
              go_simp
             refine one_ (i := 9) (N := some 80) #[true, true, true, true, true, true, true, true, true, true, false, false] rfl rfl (by kernel_rfl) (by decide) (fun K hK => ?_)
             refine goes_ Tryd.func43 (by kernel_rfl) rfl #[.int .i64 x.f2, .string x.f0, .slice A1 x.f1.length c1] (by rfl) rfl rfl (by first | rfl | (simp only [List.map_toArray, List.map_cons, List.map_nil]; rfl)) ?_
             refine (is_calls x.f2 x.f0 A1 x.f1.length c1 _).mono ?_
             rintro e w4 ⟨g1, g2, g3, rfl, hgs, h1, h2, h3, hb⟩
             have H1 := Aside0.mk h1
             have H2 := Aside0.mk h2
             have H3 := Aside0.mk h3
             refine ⟨_, rfl, hK.out _ _ (held3_step hHeld hb) (fun hHeld => ?_)⟩
             clear hgs h1 h2 h3 hb
             clear hK K
             simp only [Act.put, List.setIfInBounds_toArray, List.set_cons_zero, List.set_cons_succ]
             refine one_ (i := 10) (N := some 81) #[true, true, true, true, true, true, true, true, true, true, true, false] rfl rfl (by kernel_rfl) (by decide) (fun K hK => ?_)
             refine goes_ Tryd.func42 (by kernel_rfl) rfl #[.slice (some ad) LT.length c, .func (.func 69) #[] #[.pointer (some ⟨g1, 0, none⟩), .pointer (some ⟨g2, 0, none⟩), .pointer (some ⟨g3, 0, none⟩)]] (by rfl) rfl rfl (by first | rfl | (simp only [List.map_toArray, List.map_cons, List.map_nil]; rfl)) ?_
             refine (HCN.out g1 g2 g3 _ (below_step HB.out hHeld.2) hHeld.2 H1.out H2.out H3.out).mono ?_
             rintro e w5 ⟨rfl, hb⟩
             refine ⟨_, rfl, hK.out _ _ (held3_step hHeld hb) (fun hHeld => ?_)⟩
             clear hb
             clear hK K
             simp only [Act.put, List.setIfInBounds_toArray, List.set_cons_zero, List.set_cons_succ]
             refine pure_ (i := 11) (N := some 70) (v := ?_) (a' := ?_) #[true, true, true, true, true, true, true, true, true, true, true, true] rfl rfl (by kernel_rfl) (fun _ _ _ h => h) (Or.inl ⟨by rfl, ?_⟩) ?_ ?_
             rotate_left
             ·intro w'
              go_simp
              with_reducible rfl
             rotate_left
             ·simp only [Act.put, List.setIfInBounds_toArray, List.set_cons_zero, List.set_cons_succ]
              rfl
             refine done_ (n := 0) (by kernel_rfl) ?_
             go_wp2
             go_roundg k1
             case measure => omega
             case rel =>
              have hi := HHI.out
              refine ⟨i + 1, rfl, ⟨by omega, by omega⟩, ⟨fun j hj => ?_⟩, ⟨below_step HB.out hHeld.2⟩⟩
              by_cases hji : j = i.toNat
              ·subst hji
               rw [HPO.out, HKO.out]
               rfl
              ·exact HZ.out j (by omega)
            ·rw [b3] at HKO HCN
             clear b3
             go_wp2_with (first
              | (go_at_call 40; (with_reducible refine (HPX.out _ HBW.out).mono ?_); rintro e w2 ⟨rfl, hb⟩; have HBX := Aside0.mk ((hb.block wr.heap.size (blk_lt HBXN.out)).trans HBXN.out); have HB2 := Aside0.mk (below_step HBW.out hb); have hz0 := (blk_cell HBX.out 0).trans rfl; have hz1 := (blk_cell HBX.out 1).trans rfl; have hz2 := (blk_cell HBX.out 2).trans rfl; clear hb)
              | (go_at_call 41; (with_reducible refine (HNA.out _).mono ?_); rintro e w3 ⟨rfl, hb⟩; clear hz0 hz1 hz2; have HBX3 := Aside0.mk ((hb.block wr.heap.size (blk_lt HBX.out)).trans HBX.out); have HB3 := Aside0.mk (below_step HB2.out hb); have hz0 := (blk_cell HBX3.out 0).trans rfl; have hz1 := (blk_cell HBX3.out 1).trans rfl; have hz2 := (blk_cell HBX3.out 2).trans rfl; clear hb))
             refine start_ (n := 12) (S := fun w' => (w'.cell? ⟨wr.heap.size, 0, none⟩ = some (.string x.f0) ∧ w'.cell? ⟨wr.heap.size, 1, none⟩ = some (.slice A1 x.f1.length c1) ∧ w'.cell? ⟨wr.heap.size, 2, none⟩ = some (.int .i64 x.f2)) ∧ Below wr.heap.size wr w') (ds := []) #[false, false, false, false, false, false, false, false, false, false, false, false] (by kernel_rfl) rfl rfl (held3_start HBX3.out HB3.out) (fun hHeld => ?_)
             refine pure_ (i := 0) (N := some 71) (v := ?_) (a' := ?_) #[true, false, false, false, false, false, false, false, false, false, false, false] rfl rfl (by kernel_rfl) (fun _ _ _ h => h) (Or.inl ⟨by rfl, ?_⟩) ?_ ?_
             rotate_left
             ·intro w'
              go_simp
              with_reducible rfl
             rotate_left
             ·simp only [Act.put, List.setIfInBounds_toArray, List.set_cons_zero, List.set_cons_succ]
              rfl
             refine pure_ (i := 1) (N := some 72) (v := ?_) (a' := ?_) #[true, true, false, false, false, false, false, false, false, false, false, false] rfl rfl (by kernel_rfl) (fun _ _ _ h => h) (Or.inl ⟨by rfl, ?_⟩) ?_ ?_
             rotate_left
             ·intro w'
              go_simp
              with_reducible rfl
             rotate_left
             ·simp only [Act.put, List.setIfInBounds_toArray, List.set_cons_zero, List.set_cons_succ]
              rfl
             refine pure_ (i := 2) (N := some 73) (v := ?_) (a' := ?_) #[true, true, true, false, false, false, false, false, false, false, false, false] rfl rfl (by kernel_rfl) (fun _ _ _ h => h) (Or.inl ⟨by rfl, ?_⟩) ?_ ?_
             rotate_left
             ·intro w'
              go_simp
              with_reducible rfl
             rotate_left
             ·simp only [Act.put, List.setIfInBounds_toArray, List.set_cons_zero, List.set_cons_succ]
              rfl
             refine pure_ (i := 3) (N := some 74) (v := ?_) (a' := ?_) #[true, true, true, true, false, false, false, false, false, false, false, false] rfl rfl (by kernel_rfl) (fun _ _ _ h => h) (Or.inl ⟨by rfl, ?_⟩) ?_ ?_
             rotate_left
             ·intro w'
              go_simp
              with_reducible rfl
             rotate_left
             ·simp only [Act.put, List.setIfInBounds_toArray, List.set_cons_zero, List.set_cons_succ]
              rfl
             refine take_ (i := 4) (N := some 75) (v := (.int .i64 x.f2)) (a' := ?_) #[true, true, true, true, true, false, false, false, false, false, false, false] rfl rfl (by kernel_rfl) (fun _ _ _ h => h) (Or.inl ⟨by rfl, ?_⟩) hHeld ?_ ?_
             rotate_left
             rotate_left
             ·simp only [Act.put, List.setIfInBounds_toArray, List.set_cons_zero, List.set_cons_succ]
              rfl
             rotate_left
             ·rintro w' ⟨⟨s0, s1, s2⟩, s3⟩
              go_simp
             refine pure_ (i := 5) (N := some 76) (v := ?_) (a' := ?_) #[true, true, true, true, true, true, false, false, false, false, false, false] rfl rfl (by kernel_rfl) (fun _ _ _ h => h) (Or.inl ⟨by rfl, ?_⟩) ?_ ?_
             rotate_left
             ·intro w'
              go_simp
              with_reducible rfl
             rotate_left
             ·simp only [Act.put, List.setIfInBounds_toArray, List.set_cons_zero, List.set_cons_succ]
              rfl
             refine take_ (i := 6) (N := some 77) (v := (.string x.f0)) (a' := ?_) #[true, true, true, true, true, true, true, false, false, false, false, false] rfl rfl (by kernel_rfl) (fun _ _ _ h => h) (Or.inl ⟨by rfl, ?_⟩) hHeld ?_ ?_
             rotate_left
             rotate_left
             ·simp only [Act.put, List.setIfInBounds_toArray, List.set_cons_zero, List.set_cons_succ]
              rfl
             rotate_left
             ·rintro w' ⟨⟨s0, s1, s2⟩, s3⟩
              go_simp
             refine pure_ (i := 7) (N := some 78) (v := ?_) (a' := ?_) #[true, true, true, true, true, true, true, true, false, false, false, false] rfl rfl (by kernel_rfl) (fun _ _ _ h => h) (Or.inl ⟨by rfl, ?_⟩) ?_ ?_
             rotate_left
             ·intro w'
              go_simp
              with_reducible rfl
             rotate_left
             ·simp only [Act.put, List.setIfInBounds_toArray, List.set_cons_zero, List.set_cons_succ]
              rfl
             refine take_ (i := 8) (N := some 79) (v := (.slice A1 x.f1.length c1)) (a' := ?_) #[true, true, true, true, true, true, true, true, true, false, false, false] rfl rfl (by kernel_rfl) (fun _ _ _ h => h) (Or.inl ⟨by rfl, ?_⟩) hHeld ?_ ?_
             rotate_left
             rotate_left
             ·simp only [Act.put, List.setIfInBounds_toArray, List.set_cons_zero, List.set_cons_succ]
              rfl
             rotate_left
             ·rintro w' ⟨⟨s0, s1, s2⟩, s3⟩
              go_simp
             refine one_ (i := 9) (N := some 80) #[true, true, true, true, true, true, true, true, true, true, false, false] rfl rfl (by kernel_rfl) (by decide) (fun K hK => ?_)
             refine goes_ Tryd.func43 (by kernel_rfl) rfl #[.int .i64 x.f2, .string x.f0, .slice A1 x.f1.length c1] (by rfl) rfl rfl (by first | rfl | (simp only [List.map_toArray, List.map_cons, List.map_nil]; rfl)) ?_
             refine (is_calls x.f2 x.f0 A1 x.f1.length c1 _).mono ?_
             rintro e w4 ⟨g1, g2, g3, rfl, hgs, h1, h2, h3, hb⟩
             have H1 := Aside0.mk h1
             have H2 := Aside0.mk h2
             have H3 := Aside0.mk h3
             refine ⟨_, rfl, hK.out _ _ (held3_step hHeld hb) (fun hHeld => ?_)⟩
             clear hgs h1 h2 h3 hb
             clear hK K
             simp only [Act.put, List.setIfInBounds_toArray, List.set_cons_zero, List.set_cons_succ]
             refine one_ (i := 10) (N := some 81) #[true, true, true, true, true, true, true, true, true, true, true, false] rfl rfl (by kernel_rfl) (by decide) (fun K hK => ?_)
             refine goes_ Tryd.func42 (by kernel_rfl) rfl #[.slice (some ad) LT.length c, .func (.func 69) #[] #[.pointer (some ⟨g1, 0, none⟩), .pointer (some ⟨g2, 0, none⟩), .pointer (some ⟨g3, 0, none⟩)]] (by rfl) rfl rfl (by first | rfl | (simp only [List.map_toArray, List.map_cons, List.map_nil]; rfl)) ?_
             refine (HCN.out g1 g2 g3 _ (below_step HB.out hHeld.2) hHeld.2 H1.out H2.out H3.out).mono ?_
             rintro e w5 ⟨rfl, hb⟩
             refine ⟨_, rfl, hK.out _ _ (held3_step hHeld hb) (fun hHeld => ?_)⟩
             clear hb
             clear hK K
             simp only [Act.put, List.setIfInBounds_toArray, List.set_cons_zero, List.set_cons_succ]
             refine pure_ (i := 11) (N := some 70) (v := ?_) (a' := ?_) #[true, true, true, true, true, true, true, true, true, true, true, true] rfl rfl (by kernel_rfl) (fun _ _ _ h => h) (Or.inl ⟨by rfl, ?_⟩) ?_ ?_
             rotate_left
             ·intro w'
              go_simp
              with_reducible rfl
             rotate_left
             ·simp only [Act.put, List.setIfInBounds_toArray, List.set_cons_zero, List.set_cons_succ]
              rfl
             refine done_ (n := 0) (by kernel_rfl) ?_
             go_wp2
             go_ret
             have hi := HHI.out
             exact ⟨by rw [HPF.out, range_not _ _ i.toNat (by omega) (by rw [HPO.out, HKO.out]; rfl)]; rfl, below_step HB.out hHeld.2⟩
           ·rw [e6] at HKO
            go_wp2_with (first
             | (go_at_call 40; (with_reducible refine (HPX.out _ HBW.out).mono ?_); rintro e w2 ⟨rfl, hb⟩; have HBX := Aside0.mk ((hb.block wr.heap.size (blk_lt HBXN.out)).trans HBXN.out); have HB2 := Aside0.mk (below_step HBW.out hb); have hz0 := (blk_cell HBX.out 0).trans rfl; have hz1 := (blk_cell HBX.out 1).trans rfl; have hz2 := (blk_cell HBX.out 2).trans rfl; clear hb)
             | (go_at_call 41; (with_reducible refine (HNA.out _).mono ?_); rintro e w3 ⟨rfl, hb⟩; clear hz0 hz1 hz2; have HBX3 := Aside0.mk ((hb.block wr.heap.size (blk_lt HBX.out)).trans HBX.out); have HB3 := Aside0.mk (below_step HB2.out hb); have hz0 := (blk_cell HBX3.out 0).trans rfl; have hz1 := (blk_cell HBX3.out 1).trans rfl; have hz2 := (blk_cell HBX3.out 2).trans rfl; clear hb))
            go_ret
            have hi := HHI.out
            exact ⟨by rw [HPF.out, range_not _ _ i.toNat (by omega) (by rw [HPO.out, HKO.out]; rfl)]; rfl, below_step HB.out HB3.out⟩
          ·rw [e5] at HKO
           go_wp2_with (first
            | (go_at_call 40; (with_reducible refine (HPX.out _ HBW.out).mono ?_); rintro e w2 ⟨rfl, hb⟩; have HBX := Aside0.mk ((hb.block wr.heap.size (blk_lt HBXN.out)).trans HBXN.out); have HB2 := Aside0.mk (below_step HBW.out hb); have hz0 := (blk_cell HBX.out 0).trans rfl; have hz1 := (blk_cell HBX.out 1).trans rfl; have hz2 := (blk_cell HBX.out 2).trans rfl; clear hb)
            | (go_at_call 41; (with_reducible refine (HNA.out _).mono ?_); rintro e w3 ⟨rfl, hb⟩; clear hz0 hz1 hz2; have HBX3 := Aside0.mk ((hb.block wr.heap.size (blk_lt HBX.out)).trans HBX.out); have HB3 := Aside0.mk (below_step HB2.out hb); have hz0 := (blk_cell HBX3.out 0).trans rfl; have hz1 := (blk_cell HBX3.out 1).trans rfl; have hz2 := (blk_cell HBX3.out 2).trans rfl; clear hb))
           go_ret
           have hi := HHI.out
           exact ⟨by rw [HPF.out, range_not _ _ i.toNat (by omega) (by rw [HPO.out, HKO.out]; rfl)]; rfl, below_step HB.out HB3.out⟩
         ·rw [e4] at HKO
          go_wp2_with (first
           | (go_at_call 40; (with_reducible refine (HPX.out _ HBW.out).mono ?_); rintro e w2 ⟨rfl, hb⟩; have HBX := Aside0.mk ((hb.block wr.heap.size (blk_lt HBXN.out)).trans HBXN.out); have HB2 := Aside0.mk (below_step HBW.out hb); have hz0 := (blk_cell HBX.out 0).trans rfl; have hz1 := (blk_cell HBX.out 1).trans rfl; have hz2 := (blk_cell HBX.out 2).trans rfl; clear hb)
           | (go_at_call 41; (with_reducible refine (HNA.out _).mono ?_); rintro e w3 ⟨rfl, hb⟩; clear hz0 hz1 hz2; have HBX3 := Aside0.mk ((hb.block wr.heap.size (blk_lt HBX.out)).trans HBX.out); have HB3 := Aside0.mk (below_step HB2.out hb); have hz0 := (blk_cell HBX3.out 0).trans rfl; have hz1 := (blk_cell HBX3.out 1).trans rfl; have hz2 := (blk_cell HBX3.out 2).trans rfl; clear hb))
          go_ret
          have hi := HHI.out
          exact ⟨by rw [HPF.out, range_not _ _ i.toNat (by omega) (by rw [HPO.out, HKO.out]; rfl)]; rfl, below_step HB.out HB3.out⟩
       ·rw [e0, b1, e1] at HPO
        have HRO := Aside0.mk (show rootOk x = ((x.f0.toList == ([] : List UInt8)) && (((x.f1.length : Int) == 0) && (x.f2 == -1))) from rfl)
        clear b1
        cases n0 : (x.f0.toList == ([] : List UInt8))
        ·rw [n0] at HRO
         have n0' : (x.f0.toList != ([] : List UInt8)) = true := by rw [bne, n0]; rfl
         go_wp2_with (first
          | (go_at_call 40; (with_reducible refine (HPX.out _ HBW.out).mono ?_); rintro e w2 ⟨rfl, hb⟩; have HBX := Aside0.mk ((hb.block wr.heap.size (blk_lt HBXN.out)).trans HBXN.out); have HB2 := Aside0.mk (below_step HBW.out hb); have hz0 := (blk_cell HBX.out 0).trans rfl; have hz1 := (blk_cell HBX.out 1).trans rfl; have hz2 := (blk_cell HBX.out 2).trans rfl; clear hb))
         go_ret
         have hi := HHI.out
         exact ⟨by rw [HPF.out, range_not _ _ i.toNat (by omega) (by rw [HPO.out, HRO.out]; rfl)]; rfl, below_step HB.out HB2.out⟩
        ·have n0' : (x.f0.toList != ([] : List UInt8)) = false := by rw [bne, n0]; rfl
         cases u0 : ((x.f1.length : Int) == 0)
         ·rw [n0, u0] at HRO
          have u0' : ((x.f1.length : Int) != 0) = true := by rw [bne, u0]; rfl
          go_wp2_with (first
           | (go_at_call 40; (with_reducible refine (HPX.out _ HBW.out).mono ?_); rintro e w2 ⟨rfl, hb⟩; have HBX := Aside0.mk ((hb.block wr.heap.size (blk_lt HBXN.out)).trans HBXN.out); have HB2 := Aside0.mk (below_step HBW.out hb); have hz0 := (blk_cell HBX.out 0).trans rfl; have hz1 := (blk_cell HBX.out 1).trans rfl; have hz2 := (blk_cell HBX.out 2).trans rfl; clear hb))
          go_ret
          have hi := HHI.out
          exact ⟨by rw [HPF.out, range_not _ _ i.toNat (by omega) (by rw [HPO.out, HRO.out]; rfl)]; rfl, below_step HB.out HB2.out⟩
         ·have u0' : ((x.f1.length : Int) != 0) = false := by rw [bne, u0]; rfl
          cases p0 : (x.f2 == -1)
          ·rw [n0, u0, p0] at HRO
           have p0' : (x.f2 != -1) = true := by rw [bne, p0]; rfl
           go_wp2_with (first
            | (go_at_call 40; (with_reducible refine (HPX.out _ HBW.out).mono ?_); rintro e w2 ⟨rfl, hb⟩; have HBX := Aside0.mk ((hb.block wr.heap.size (blk_lt HBXN.out)).trans HBXN.out); have HB2 := Aside0.mk (below_step HBW.out hb); have hz0 := (blk_cell HBX.out 0).trans rfl; have hz1 := (blk_cell HBX.out 1).trans rfl; have hz2 := (blk_cell HBX.out 2).trans rfl; clear hb))
           go_ret
           have hi := HHI.out
           exact ⟨by rw [HPF.out, range_not _ _ i.toNat (by omega) (by rw [HPO.out, HRO.out]; rfl)]; rfl, below_step HB.out HB2.out⟩
          ·rw [n0, u0, p0] at HRO
           have p0' : (x.f2 != -1) = false := by rw [bne, p0]; rfl
           go_wp2_with (first
            | (go_at_call 40; (with_reducible refine (HPX.out _ HBW.out).mono ?_); rintro e w2 ⟨rfl, hb⟩; have HBX := Aside0.mk ((hb.block wr.heap.size (blk_lt HBXN.out)).trans HBXN.out); have HB2 := Aside0.mk (below_step HBW.out hb); have hz0 := (blk_cell HBX.out 0).trans rfl; have hz1 := (blk_cell HBX.out 1).trans rfl; have hz2 := (blk_cell HBX.out 2).trans rfl; clear hb))
           go_roundg k1
           case measure => omega
           case rel =>
            have hi := HHI.out
            refine ⟨i + 1, rfl, ⟨by omega, by omega⟩, ⟨fun j hj => ?_⟩, ⟨below_step HB.out HB2.out⟩⟩
            by_cases hji : j = i.toNat
            ·subst hji
             rw [HPO.out, HRO.out]
             rfl
            ·exact HZ.out j (by omega)
     ·rw [e0] at HPO
      go_wp2
      go_ret
      have hi := HHI.out
      exact ⟨by rw [HPF.out, range_not _ _ i.toNat (by omega) (by rw [HPO.out]; rfl)]; rfl, below_step HB.out (by first | exact HBW.out | exact HB2.out)⟩
  ·have HPF := Aside0.mk (show treeF l = false by unfold treeF; rw [h0, h32]; rfl)
   clear hC hc hm
   go_enter Tryd.func12, Tryd.ntmps12
   go_wp2
   go_ret
   exact ⟨by rw [HPF.out]; rfl, Below.refl _ _⟩
 ·have HPF := Aside0.mk (show treeF l = false by unfold treeF; rw [h0]; rfl)
  clear hC hc hm
  go_enter Tryd.func12, Tryd.ntmps12
  go_wp2
  go_ret
  exact ⟨by rw [HPF.out]; rfl, Below.refl _ _⟩
end Go.Proofs.YtnalcjgefbelnaaDoor.Q
end
section
set_option linter.unusedVariables false
namespace Go.Proofs.YtnalcjgefbelnaaDoor.Q
open Go.RowKit Go.Proofs.YtnalcjgefbelnaaDoorW.PrintWords Go.Proofs.YtnalcjgefbelnaaDoorW.PrintLast
def tree_Formed.f (l0 : List S44) : Option Bool := some (treeF l0)
theorem tree_Formed.calls (A0 : Option Addr) (c0 : Nat) (l0 : List S44) (r : Bool) (w : World) (hr0 : Kd.C k44 w A0 l0.length l0) (hc0 : l0.length ≤ c0) (h : tree_Formed.f l0 = some r) :
  Calls Tryd.prog 12 #[.slice A0 l0.length c0] w fun e w' => e = .returned (.bool r) ∧ Below w.heap.size w w' := by
 obtain rfl := Option.some.inj h
 exact treeFormed_calls A0 c0 l0 w hr0 hc0
/-- Lists short enough for a copy to be made. -/
def shortP (x : S53) : Bool := decide (x.f1.length < 140737488355328)
def shortN (x : S44) : Bool := decide (x.f1.length * 4 < 140737488355328) && (decide (x.f4.length * 4 < 140737488355328) && (decide (x.f3.length * 40 < 140737488355328) && x.f3.all shortP))
def shortT (l : List S44) : Bool := decide (l.length * 96 < 140737488355328) && l.all shortN
theorem shortN_G {x : S44} (h : shortN x = true) : G91 x := by
 simp only [shortN, Bool.and_eq_true, decide_eq_true_eq, List.all_eq_true] at h
 exact ⟨h.1, h.2.1, h.2.2.1, fun p hp => by
  have := h.2.2.2 p hp
  simp only [shortP, decide_eq_true_eq] at this
  show p.f1.length * 1 < _
  omega⟩
def tree_Copy.f (l0 : List S44) : Option (List S44) := if shortT l0 = true then some l0 else none
theorem tree_Copy.calls (A0 : Option Addr) (c0 : Nat) (l0 : List S44) (r : List S44) (w : World) (hr0 : Kd.C k44 w A0 l0.length l0) (hc0 : l0.length ≤ c0) (h : tree_Copy.f l0 = some r) :
  Calls Tryd.prog 15 #[.slice A0 l0.length c0] w fun e w' => ∃ v0_ : Value, e = .returned (v0_) ∧ Kd.S k44 44 w' w.heap.size (fun _ => True) v0_ r ∧ Below w.heap.size w w' := by
 unfold tree_Copy.f at h
 by_cases hs : shortT l0 = true
 ·rw [if_pos hs] at h
  obtain rfl := Option.some.inj h
  simp only [shortT, Bool.and_eq_true, decide_eq_true_eq, List.all_eq_true] at hs
  exact treeCopy_calls A0 c0 l0 w hr0 hc0 hs.1 (fun x hx => shortN_G (hs.2 x hx))
 ·rw [if_neg hs] at h
  cases h
def slices_Clone_uint32_uint32.f (l0 : List Int) : Option (List Int) := if l0.length * 4 < 140737488355328 then some l0 else none
theorem slices_Clone_uint32_uint32.calls (A0 : Option Addr) (c0 : Nat) (l0 : List Int) (r : List Int) (w : World) (hr0 : Kd.C (Kd.int .u32) w A0 l0.length l0) (hc0 : l0.length ≤ c0) (h : slices_Clone_uint32_uint32.f l0 = some r) :
  Calls Tryd.prog 48 #[.slice A0 l0.length c0] w fun e w' => ∃ v0_ : Value, e = .returned (v0_) ∧ Kd.R (Kd.int .u32) 66 w' w.heap.size (fun _ => True) v0_ r ∧ Below w.heap.size w w' := by
 unfold slices_Clone_uint32_uint32.f at h
 by_cases hs : l0.length * 4 < 140737488355328
 ·rw [if_pos hs] at h
  obtain rfl := Option.some.inj h
  exact cloneU32_calls A0 c0 l0 w hr0 hs
 ·rw [if_neg hs] at h
  cases h
def slices_Clone_byte_byte.f (l0 : List Int) : Option (List Int) := if l0.length < 140737488355328 then some l0 else none
theorem slices_Clone_byte_byte.calls (A0 : Option Addr) (c0 : Nat) (l0 : List Int) (r : List Int) (w : World) (hr0 : Kd.C (Kd.int .u8) w A0 l0.length l0) (hc0 : l0.length ≤ c0) (h : slices_Clone_byte_byte.f l0 = some r) :
  Calls Tryd.prog 50 #[.slice A0 l0.length c0] w fun e w' => ∃ v0_ : Value, e = .returned (v0_) ∧ Kd.R (Kd.int .u8) 5 w' w.heap.size (fun _ => True) v0_ r ∧ Below w.heap.size w w' := by
 unfold slices_Clone_byte_byte.f at h
 by_cases hs : l0.length < 140737488355328
 ·rw [if_pos hs] at h
  obtain rfl := Option.some.inj h
  exact cloneByte_calls A0 c0 l0 w hr0 (by omega)
 ·rw [if_neg hs] at h
  cases h
end Go.Proofs.YtnalcjgefbelnaaDoor.Q
end
section
namespace Go.Proofs.YtnalcjgefbelnaaDoor.Q
open Go.RowKit Go.Proofs.YtnalcjgefbelnaaDoorW.PrintWords Go.Proofs.YtnalcjgefbelnaaDoorW.PrintLast Go.Proofs.YtnalcjgefbelnaaDoorW.PrintMore
set_option linter.unusedVariables false
set_option linter.unusedSimpArgs false

attribute [local go_sem] max2_int min2_int max_two min_two max_three min_three max_four min_four
/-! ### tinderref08_find: function 46 -/
def tinderref08_find.l0 : Nat → List (S53) → ByteArray → Int → Option (Int)
 | 0, _, _, _ => none
 | k + 1, x0, x1, x5 => if x5 < (x0.length : Int) then (if 0 ≤ x5 then (if ((rd_T53 x0 x5).f0).toList = x1.toList then (some x5) else (tinderref08_find.l0 k x0 x1 (wrap64 (x5 + 1)))) else (none)) else (some (-1))
def tinderref08_find.f (k : Nat) (l0 : List (S53)) (a1 : ByteArray) : Option (Int) := tinderref08_find.l0 k l0 a1 0
set_option maxHeartbeats 8000000 in
set_option maxRecDepth 100000 in
theorem tinderref08_find.calls (k : Nat) (A0 : Option Addr) (c0 : Nat) (l0 : List (S53)) (a1 : ByteArray) (r : Int) (w : World) (hr0 : Kd.C k53 w A0 l0.length l0) (hc0 : l0.length ≤ c0) (h : tinderref08_find.f k l0 a1 = some r) :
  Calls Tryd.prog 46 #[.slice A0 l0.length c0, .string a1] w fun e w' => e = .returned (.int .i64 r) ∧ Drawn0 w w' := by
 have HR0 := Aside0.mk hr0
 have HC0 := Aside0.mk hc0
 clear hr0 hc0
 have H : (tinderref08_find.l0 k l0 a1 0) = some r := h
 clear h
 have H' := Aside0.mk H
 clear H
 go_enter Tryd.func46, Tryd.ntmps46
 go_wp2
 go_loopg [5] k (fun kq v5 w' => ∃ (x5_1 : Int), v5 = .int .i64 x5_1 ∧ Aside0 (tinderref08_find.l0 kq l0 a1 x5_1 = some r) ∧ Aside0 (kq ≤ k) ∧ Drawn0 w w')
 case atStart => exact ⟨(0), (by first | rfl | (simp; done) | (simp [*]; done)), H', ⟨Nat.le_refl _⟩, by repeat (first | exact Drawn0.refl _ | apply Drawn0.step)⟩
 case round =>
  clear H'
  try clear p2
  obtain ⟨x5_1, rfl, HA, HK1, ⟨m1, rfl⟩⟩ := hrel
  cases gk with
  | zero => exact absurd HA.out (by simp [tinderref08_find.l0])
  | succ k1 =>
   have H := HA.out
   clear HA
   simp only [tinderref08_find.l0] at H
   by_cases c3 : x5_1 < (l0.length : Int)
   ·rw [if_pos c3] at H
    have c3b0 : decide (x5_1 < (l0.length : Int)) = true := decide_eq_true c3
    clear c3
    by_cases c4 : 0 ≤ x5_1
    ·rw [if_pos c4] at H
     have c4b0 : decide (0 ≤ x5_1) = true := decide_eq_true c4
     clear c4
     by_cases c5 : ((rd_T53 l0 x5_1).f0).toList = a1.toList
     ·rw [if_pos c5] at H
      have c5b0 : (((rd_T53 l0 x5_1).f0).toList == a1.toList) = true := beq_iff_eq.mpr c5
      have c5b1 : (((rd_T53 l0 x5_1).f0).toList != a1.toList) = false := bne_eq_false_iff_eq.mpr c5
      clear c5
      obtain rfl := Option.some.inj H
      have p47001 : 0 ≤ (x5_1 : Int) := of_decide_eq_true (by first | (with_reducible assumption) | assumption)
      have q47001 : x5_1 < (l0.length : Int) := of_decide_eq_true (by first | (with_reducible assumption) | assumption)
      obtain ⟨ad47001, A47001_1, c47001_1, e47001, hx47001_0, hx47001_1, hl47001_1, hi47001_1⟩ := at_T53 HR0.out x5_1 p47001 q47001
      cases e47001
      have HR47001_1 := Aside0.mk hi47001_1
      have HC47001_1 := Aside0.mk hl47001_1
      clear hi47001_1 hl47001_1
      replace p47001 := eq_true p47001
      replace q47001 := eq_true q47001
      go_wp2
      go_ret
      exact ⟨by first | rfl | (simp; done) | (simp [*]; done), by repeat (first | exact Drawn0.refl _ | apply Drawn0.step)⟩
     ·rw [if_neg c5] at H
      have c5b0 : (((rd_T53 l0 x5_1).f0).toList == a1.toList) = false := beq_eq_false_iff_ne.mpr c5
      have c5b1 : (((rd_T53 l0 x5_1).f0).toList != a1.toList) = true := bne_iff_ne.mpr c5
      have H' := Aside0.mk H
      clear H
      have p47001 : 0 ≤ (x5_1 : Int) := of_decide_eq_true (by first | (with_reducible assumption) | assumption)
      have q47001 : x5_1 < (l0.length : Int) := of_decide_eq_true (by first | (with_reducible assumption) | assumption)
      obtain ⟨ad47001, A47001_1, c47001_1, e47001, hx47001_0, hx47001_1, hl47001_1, hi47001_1⟩ := at_T53 HR0.out x5_1 p47001 q47001
      cases e47001
      have HR47001_1 := Aside0.mk hi47001_1
      have HC47001_1 := Aside0.mk hl47001_1
      clear hi47001_1 hl47001_1
      replace p47001 := eq_true p47001
      replace q47001 := eq_true q47001
      go_wp2
      go_roundg k1
      case measure => have := HK1.out; omega
      case rel => exact ⟨(wrap64 (x5_1 + 1)), (by first | rfl | (simp; done) | (simp [*]; done)), H', ⟨by have := HK1.out; omega⟩, by repeat (first | exact Drawn0.refl _ | apply Drawn0.step)⟩
    ·rw [if_neg c4] at H
     exact absurd H (by simp)
   ·rw [if_neg c3] at H
    have c3b0 : decide (x5_1 < (l0.length : Int)) = false := decide_eq_false c3
    clear c3
    obtain rfl := Option.some.inj H
    go_wp2
    go_ret
    exact ⟨by first | rfl | (simp; done) | (simp [*]; done), by repeat (first | exact Drawn0.refl _ | apply Drawn0.step)⟩

end Go.Proofs.YtnalcjgefbelnaaDoor.Q
end
section
namespace Go.Proofs.YtnalcjgefbelnaaDoor.Q
open Go.RowKit Go.Proofs.YtnalcjgefbelnaaDoorW.PrintWords Go.Proofs.YtnalcjgefbelnaaDoorW.PrintLast Go.Proofs.YtnalcjgefbelnaaDoorW.PrintMore
set_option linter.unusedVariables false
set_option linter.unusedSimpArgs false

attribute [local go_sem] max2_int min2_int max_two min_two max_three min_three max_four min_four
/-! ### tinderref03_Same: function 26 -/
def tinderref03_Same.l0 : Nat → List Int → List Int → Int → Option (Bool)
 | 0, _, _, _ => none
 | k + 1, x0, x1, x5 => if x5 < (x0.length : Int) then (if 0 ≤ x5 then (if x5 < (x1.length : Int) then (if (rd x0 x5) = (rd x1 x5) then (tinderref03_Same.l0 k x0 x1 (wrap64 (x5 + 1))) else (some false)) else (none)) else (none)) else (some true)
def tinderref03_Same.f (k : Nat) (l0 : List Int) (l1 : List Int) : Option (Bool) := if (l0.length : Int) = (l1.length : Int) then (tinderref03_Same.l0 k l0 l1 0) else (some false)
set_option maxHeartbeats 8000000 in
set_option maxRecDepth 100000 in
theorem tinderref03_Same.calls (k : Nat) (A0 : Option Addr) (c0 : Nat) (l0 : List Int) (A1 : Option Addr) (c1 : Nat) (l1 : List Int) (r : Bool) (w : World) (hr0 : Kd.C (Kd.int .u32) w A0 l0.length l0) (hc0 : l0.length ≤ c0) (hr1 : Kd.C (Kd.int .u32) w A1 l1.length l1) (hc1 : l1.length ≤ c1) (h : tinderref03_Same.f k l0 l1 = some r) :
  Calls Tryd.prog 26 #[.slice A0 l0.length c0, .slice A1 l1.length c1] w fun e w' => e = .returned (.bool r) ∧ Drawn0 w w' := by
 have HR0 := Aside0.mk hr0
 have HC0 := Aside0.mk hc0
 clear hr0 hc0
 have HR1 := Aside0.mk hr1
 have HC1 := Aside0.mk hc1
 clear hr1 hc1
 have H : (if (l0.length : Int) = (l1.length : Int) then (tinderref03_Same.l0 k l0 l1 0) else (some false)) = some r := h
 clear h
 by_cases c3 : (l0.length : Int) = (l1.length : Int)
 ·rw [if_pos c3] at H
  have c3b0 : ((l0.length : Int) == (l1.length : Int)) = true := beq_iff_eq.mpr c3
  have c3b1 : ((l0.length : Int) != (l1.length : Int)) = false := bne_eq_false_iff_eq.mpr c3
  have c3b2 : (l0.length == l1.length) = true := by first | simpa using c3 | (simp at c3 ⊢; omega)
  clear c3
  have H' := Aside0.mk H
  clear H
  go_enter Tryd.func26, Tryd.ntmps26
  go_wp2
  repeat (go_quiet (fail); try go_wp2)
  go_loopg [5] k (fun kq v5 w' => ∃ (x5_1 : Int), v5 = .int .i64 x5_1 ∧ Aside0 (tinderref03_Same.l0 kq l0 l1 x5_1 = some r) ∧ Aside0 (kq ≤ k) ∧ Drawn0 w w')
  case atStart => exact ⟨(0), (by first | rfl | (simp; done) | (simp [*]; done)), H', ⟨Nat.le_refl _⟩, by repeat (first | exact Drawn0.refl _ | apply Drawn0.step)⟩
  case round =>
   clear H'
   try clear c1
   try clear c2
   try clear p2
   try clear c3
   try clear c3b0
   try clear c3b1
   try clear c3b2
   obtain ⟨x5_1, rfl, HA, HK1, ⟨m1, rfl⟩⟩ := hrel
   cases gk with
   | zero => exact absurd HA.out (by simp [tinderref03_Same.l0])
   | succ k1 =>
    have H := HA.out
    clear HA
    simp only [tinderref03_Same.l0] at H
    by_cases c4 : x5_1 < (l0.length : Int)
    ·rw [if_pos c4] at H
     have c4b0 : decide (x5_1 < (l0.length : Int)) = true := decide_eq_true c4
     clear c4
     by_cases c5 : 0 ≤ x5_1
     ·rw [if_pos c5] at H
      have c5b0 : decide (0 ≤ x5_1) = true := decide_eq_true c5
      clear c5
      by_cases c6 : x5_1 < (l1.length : Int)
      ·rw [if_pos c6] at H
       have c6b0 : decide (x5_1 < (l1.length : Int)) = true := decide_eq_true c6
       clear c6
       by_cases c7 : (rd l0 x5_1) = (rd l1 x5_1)
       ·rw [if_pos c7] at H
        have c7b0 : ((rd l0 x5_1) == (rd l1 x5_1)) = true := beq_iff_eq.mpr c7
        have c7b1 : ((rd l0 x5_1) != (rd l1 x5_1)) = false := bne_eq_false_iff_eq.mpr c7
        clear c7
        have H' := Aside0.mk H
        clear H
        have p27001 : 0 ≤ (x5_1 : Int) := of_decide_eq_true (by first | (with_reducible assumption) | assumption)
        have q27001 : x5_1 < (l0.length : Int) := of_decide_eq_true (by first | (with_reducible assumption) | assumption)
        obtain ⟨ad27001, e27001, hx27001_0⟩ := Kd.at_int HR0.out x5_1 p27001 q27001
        cases e27001
        replace p27001 := eq_true p27001
        replace q27001 := eq_true q27001
        have p27002 : 0 ≤ (x5_1 : Int) := of_decide_eq_true (by first | (with_reducible assumption) | assumption)
        have q27002 : x5_1 < (l1.length : Int) := of_decide_eq_true (by first | (with_reducible assumption) | assumption)
        obtain ⟨ad27002, e27002, hx27002_0⟩ := Kd.at_int HR1.out x5_1 p27002 q27002
        cases e27002
        replace p27002 := eq_true p27002
        replace q27002 := eq_true q27002
        go_wp2
        repeat (go_quiet (fail); try go_wp2)
        go_roundg k1
        case measure => have := HK1.out; omega
        case rel => exact ⟨(wrap64 (x5_1 + 1)), (by first | rfl | (simp; done) | (simp [*]; done)), H', ⟨by have := HK1.out; omega⟩, by repeat (first | exact Drawn0.refl _ | apply Drawn0.step)⟩
       ·rw [if_neg c7] at H
        have c7b0 : ((rd l0 x5_1) == (rd l1 x5_1)) = false := beq_eq_false_iff_ne.mpr c7
        have c7b1 : ((rd l0 x5_1) != (rd l1 x5_1)) = true := bne_iff_ne.mpr c7
        obtain rfl := Option.some.inj H
        have p27001 : 0 ≤ (x5_1 : Int) := of_decide_eq_true (by first | (with_reducible assumption) | assumption)
        have q27001 : x5_1 < (l0.length : Int) := of_decide_eq_true (by first | (with_reducible assumption) | assumption)
        obtain ⟨ad27001, e27001, hx27001_0⟩ := Kd.at_int HR0.out x5_1 p27001 q27001
        cases e27001
        replace p27001 := eq_true p27001
        replace q27001 := eq_true q27001
        have p27002 : 0 ≤ (x5_1 : Int) := of_decide_eq_true (by first | (with_reducible assumption) | assumption)
        have q27002 : x5_1 < (l1.length : Int) := of_decide_eq_true (by first | (with_reducible assumption) | assumption)
        obtain ⟨ad27002, e27002, hx27002_0⟩ := Kd.at_int HR1.out x5_1 p27002 q27002
        cases e27002
        replace p27002 := eq_true p27002
        replace q27002 := eq_true q27002
        go_wp2
        repeat (go_quiet (fail); try go_wp2)
        go_ret
        exact ⟨by first | rfl | (simp; done) | (simp [*]; done), by repeat (first | exact Drawn0.refl _ | apply Drawn0.step)⟩
      ·rw [if_neg c6] at H
       exact absurd H (by simp)
     ·rw [if_neg c5] at H
      exact absurd H (by simp)
    ·rw [if_neg c4] at H
     have c4b0 : decide (x5_1 < (l0.length : Int)) = false := decide_eq_false c4
     clear c4
     obtain rfl := Option.some.inj H
     go_wp2
     repeat (go_quiet (fail); try go_wp2)
     go_ret
     exact ⟨by first | rfl | (simp; done) | (simp [*]; done), by repeat (first | exact Drawn0.refl _ | apply Drawn0.step)⟩
 ·rw [if_neg c3] at H
  have c3b0 : ((l0.length : Int) == (l1.length : Int)) = false := beq_eq_false_iff_ne.mpr c3
  have c3b1 : ((l0.length : Int) != (l1.length : Int)) = true := bne_iff_ne.mpr c3
  have c3b2 : (l0.length == l1.length) = false := by first | simpa using c3 | (simp at c3 ⊢; omega)
  obtain rfl := Option.some.inj H
  go_enter Tryd.func26, Tryd.ntmps26
  go_wp2
  repeat (go_quiet (fail); try go_wp2)
  go_ret
  exact ⟨by first | rfl | (simp; done) | (simp [*]; done), by repeat (first | exact Drawn0.refl _ | apply Drawn0.step)⟩

end Go.Proofs.YtnalcjgefbelnaaDoor.Q
end
section
namespace Go.Proofs.YtnalcjgefbelnaaDoor.Q
open Go.RowKit Go.Proofs.YtnalcjgefbelnaaDoorW.PrintWords Go.Proofs.YtnalcjgefbelnaaDoorW.PrintLast Go.Proofs.YtnalcjgefbelnaaDoorW.PrintMore
set_option linter.unusedVariables false
set_option linter.unusedSimpArgs false

attribute [local go_sem] max2_int min2_int max_two min_two max_three min_three max_four min_four
/-! ### tinderref08_twin: function 45 -/
def tinderref08_twin.l0 : Nat → List (S44) → Int → Int → ByteArray → List Int → Int → Option (Bool)
 | 0, _, _, _, _, _, _ => none
 | k + 1, x0, x1, x2, x3, x4, x11 => if x11 < x1 then (if 0 ≤ x11 then (if x11 < (x0.length : Int) then (if ((rd_T44 x0 x11).f2) = x2 then (if ((rd_T44 x0 x11).f0).toList = x3.toList then ((tinderref03_Same.f k ((rd_T44 x0 x11).f1) x4).bind fun t46004 => (if t46004 = true then (some true) else (tinderref08_twin.l0 k x0 x1 x2 x3 x4 (wrap64 (x11 + 1))))) else (tinderref08_twin.l0 k x0 x1 x2 x3 x4 (wrap64 (x11 + 1)))) else (tinderref08_twin.l0 k x0 x1 x2 x3 x4 (wrap64 (x11 + 1)))) else (none)) else (none)) else (some false)
def tinderref08_twin.f (k : Nat) (l0 : List (S44)) (a1 : Int) (a2 : Int) (a3 : ByteArray) (l4 : List Int) : Option (Bool) := tinderref08_twin.l0 k l0 a1 a2 a3 l4 0
set_option maxHeartbeats 8000000 in
set_option maxRecDepth 100000 in
theorem tinderref08_twin.calls (k : Nat) (A0 : Option Addr) (c0 : Nat) (l0 : List (S44)) (a1 : Int) (a2 : Int) (a3 : ByteArray) (A4 : Option Addr) (c4 : Nat) (l4 : List Int) (r : Bool) (w : World) (hr0 : Kd.C k44 w A0 l0.length l0) (hc0 : l0.length ≤ c0) (hr4 : Kd.C (Kd.int .u32) w A4 l4.length l4) (hc4 : l4.length ≤ c4) (h : tinderref08_twin.f k l0 a1 a2 a3 l4 = some r) :
  Calls Tryd.prog 45 #[.slice A0 l0.length c0, .int .i64 a1, .int .i64 a2, .string a3, .slice A4 l4.length c4] w fun e w' => e = .returned (.bool r) ∧ Drawn0 w w' := by
 have HR0 := Aside0.mk hr0
 have HC0 := Aside0.mk hc0
 clear hr0 hc0
 have HR4 := Aside0.mk hr4
 have HC4 := Aside0.mk hc4
 clear hr4 hc4
 have H : (tinderref08_twin.l0 k l0 a1 a2 a3 l4 0) = some r := h
 clear h
 have H' := Aside0.mk H
 clear H
 go_enter Tryd.func45, Tryd.ntmps45
 go_wp2
 go_loopg [11] k (fun kq v11 w' => ∃ (x11_1 : Int), v11 = .int .i64 x11_1 ∧ Aside0 (tinderref08_twin.l0 kq l0 a1 a2 a3 l4 x11_1 = some r) ∧ Aside0 (kq ≤ k) ∧ Drawn0 w w')
 case atStart => exact ⟨(0), (by first | rfl | (simp; done) | (simp [*]; done)), H', ⟨Nat.le_refl _⟩, by repeat (first | exact Drawn0.refl _ | apply Drawn0.step)⟩
 case round =>
  clear H'
  try clear p2
  try clear c4
  obtain ⟨x11_1, rfl, HA, HK1, ⟨m1, rfl⟩⟩ := hrel
  cases gk with
  | zero => exact absurd HA.out (by simp [tinderref08_twin.l0])
  | succ k1 =>
   have H := HA.out
   clear HA
   simp only [tinderref08_twin.l0] at H
   by_cases c6 : x11_1 < a1
   ·rw [if_pos c6] at H
    have c6b0 : decide (x11_1 < a1) = true := decide_eq_true c6
    clear c6
    by_cases c7 : 0 ≤ x11_1
    ·rw [if_pos c7] at H
     have c7b0 : decide (0 ≤ x11_1) = true := decide_eq_true c7
     clear c7
     by_cases c8 : x11_1 < (l0.length : Int)
     ·rw [if_pos c8] at H
      have c8b0 : decide (x11_1 < (l0.length : Int)) = true := decide_eq_true c8
      clear c8
      by_cases c9 : ((rd_T44 l0 x11_1).f2) = a2
      ·rw [if_pos c9] at H
       have c9b0 : (((rd_T44 l0 x11_1).f2) == a2) = true := beq_iff_eq.mpr c9
       have c9b1 : (((rd_T44 l0 x11_1).f2) != a2) = false := bne_eq_false_iff_eq.mpr c9
       clear c9
       by_cases c10 : ((rd_T44 l0 x11_1).f0).toList = a3.toList
       ·rw [if_pos c10] at H
        have c10b0 : (((rd_T44 l0 x11_1).f0).toList == a3.toList) = true := beq_iff_eq.mpr c10
        have c10b1 : (((rd_T44 l0 x11_1).f0).toList != a3.toList) = false := bne_eq_false_iff_eq.mpr c10
        clear c10
        replace H := Option.bind_eq_some_iff.mp H
        obtain ⟨t004, A110, H⟩ := H
        replace H : (if t004 = true then (some true) else (tinderref08_twin.l0 k1 l0 a1 a2 a3 l4 (wrap64 (x11_1 + 1)))) = some r := H
        have A11 := Aside0.mk A110
        clear A110
        by_cases c12 : t004 = true
        ·subst c12
         have H1 : (some true) = some r := by rw [if_pos rfl] at H; exact H
         clear H
         have H := H1
         clear H1
         obtain rfl := Option.some.inj H
         have p001 : 0 ≤ (x11_1 : Int) := of_decide_eq_true (by first | (with_reducible assumption) | assumption)
         have q001 : x11_1 < (l0.length : Int) := of_decide_eq_true (by first | (with_reducible assumption) | assumption)
         obtain ⟨ad001, A001_1, c001_1, A001_3, c001_3, A001_4, c001_4, e001, hx001_0, hx001_1, hx001_2, hx001_3, hx001_4, hl001_1, hi001_1, hl001_3, hi001_3, hl001_4, hi001_4⟩ := at_T44 HR0.out x11_1 p001 q001
         cases e001
         have HR001_1 := Aside0.mk hi001_1
         have HC001_1 := Aside0.mk hl001_1
         clear hi001_1 hl001_1
         have HR001_3 := Aside0.mk hi001_3
         have HC001_3 := Aside0.mk hl001_3
         clear hi001_3 hl001_3
         have HR001_4 := Aside0.mk hi001_4
         have HC001_4 := Aside0.mk hl001_4
         clear hi001_4 hl001_4
         replace p001 := eq_true p001
         replace q001 := eq_true q001
         have p002 : 0 ≤ (x11_1 : Int) := of_decide_eq_true (by first | (with_reducible assumption) | assumption)
         have q002 : x11_1 < (l0.length : Int) := of_decide_eq_true (by first | (with_reducible assumption) | assumption)
         obtain ⟨ad002, A002_1, c002_1, A002_3, c002_3, A002_4, c002_4, e002, hx002_0, hx002_1, hx002_2, hx002_3, hx002_4, hl002_1, hi002_1, hl002_3, hi002_3, hl002_4, hi002_4⟩ := at_T44 HR0.out x11_1 p002 q002
         obtain rfl : ad001 = ad002 := (by injection e002)
         have HR002_1 := Aside0.mk hi002_1
         have HC002_1 := Aside0.mk hl002_1
         clear hi002_1 hl002_1
         have HR002_3 := Aside0.mk hi002_3
         have HC002_3 := Aside0.mk hl002_3
         clear hi002_3 hl002_3
         have HR002_4 := Aside0.mk hi002_4
         have HC002_4 := Aside0.mk hl002_4
         clear hi002_4 hl002_4
         replace p002 := eq_true p002
         replace q002 := eq_true q002
         have ea_ := Option.some.inj (hx001_1.symm.trans hx002_1)
         injection ea_ with ea_ en_ ec_
         subst ea_
         subst ec_
         clear en_
         have ea_ := Option.some.inj (hx001_3.symm.trans hx002_3)
         injection ea_ with ea_ en_ ec_
         subst ea_
         subst ec_
         clear en_
         have ea_ := Option.some.inj (hx001_4.symm.trans hx002_4)
         injection ea_ with ea_ en_ ec_
         subst ea_
         subst ec_
         clear en_
         have p003 : 0 ≤ (x11_1 : Int) := of_decide_eq_true (by first | (with_reducible assumption) | assumption)
         have q003 : x11_1 < (l0.length : Int) := of_decide_eq_true (by first | (with_reducible assumption) | assumption)
         obtain ⟨ad003, A003_1, c003_1, A003_3, c003_3, A003_4, c003_4, e003, hx003_0, hx003_1, hx003_2, hx003_3, hx003_4, hl003_1, hi003_1, hl003_3, hi003_3, hl003_4, hi003_4⟩ := at_T44 HR0.out x11_1 p003 q003
         obtain rfl : ad001 = ad003 := (by injection e003)
         have HR003_1 := Aside0.mk hi003_1
         have HC003_1 := Aside0.mk hl003_1
         clear hi003_1 hl003_1
         have HR003_3 := Aside0.mk hi003_3
         have HC003_3 := Aside0.mk hl003_3
         clear hi003_3 hl003_3
         have HR003_4 := Aside0.mk hi003_4
         have HC003_4 := Aside0.mk hl003_4
         clear hi003_4 hl003_4
         replace p003 := eq_true p003
         replace q003 := eq_true q003
         have ea_ := Option.some.inj (hx001_1.symm.trans hx003_1)
         injection ea_ with ea_ en_ ec_
         subst ea_
         subst ec_
         clear en_
         have ea_ := Option.some.inj (hx001_3.symm.trans hx003_3)
         injection ea_ with ea_ en_ ec_
         subst ea_
         subst ec_
         clear en_
         have ea_ := Option.some.inj (hx001_4.symm.trans hx003_4)
         injection ea_ with ea_ en_ ec_
         subst ea_
         subst ec_
         clear en_
         go_wp2_with (first | (go_at_call 26; (with_reducible refine (tinderref03_Same.calls k1 _ _ ((rd_T44 l0 x11_1).f1) _ _ l4 true _ ?side1 ?side2 ?side3 ?side4 A11.out).mono ?_); (case side1 => repeat (first | exact HR003_1.out | (with_reducible refine Kd.C_alloc ?_ _) | (with_reducible refine Kd.C_drewN ?_ _) | (with_reducible refine Kd.C_drew ?_))); (case side2 => exact HC003_1.out); (case side3 => repeat (first | exact HR4.out | (with_reducible refine Kd.C_alloc ?_ _) | (with_reducible refine Kd.C_drewN ?_ _) | (with_reducible refine Kd.C_drew ?_))); (case side4 => exact HC4.out); rintro e w' ⟨rfl, ⟨nd, rfl⟩⟩))
         go_ret
         exact ⟨by first | rfl | (simp; done) | (simp [*]; done), by repeat (first | exact Drawn0.refl _ | apply Drawn0.step)⟩
        ·replace c12 := Bool.eq_false_iff.mpr c12
         subst c12
         have H1 : (tinderref08_twin.l0 k1 l0 a1 a2 a3 l4 (wrap64 (x11_1 + 1))) = some r := by rw [if_neg (show ¬ (false = true) by decide)] at H; exact H
         clear H
         have H := H1
         clear H1
         have H' := Aside0.mk H
         clear H
         have p001 : 0 ≤ (x11_1 : Int) := of_decide_eq_true (by first | (with_reducible assumption) | assumption)
         have q001 : x11_1 < (l0.length : Int) := of_decide_eq_true (by first | (with_reducible assumption) | assumption)
         obtain ⟨ad001, A001_1, c001_1, A001_3, c001_3, A001_4, c001_4, e001, hx001_0, hx001_1, hx001_2, hx001_3, hx001_4, hl001_1, hi001_1, hl001_3, hi001_3, hl001_4, hi001_4⟩ := at_T44 HR0.out x11_1 p001 q001
         cases e001
         have HR001_1 := Aside0.mk hi001_1
         have HC001_1 := Aside0.mk hl001_1
         clear hi001_1 hl001_1
         have HR001_3 := Aside0.mk hi001_3
         have HC001_3 := Aside0.mk hl001_3
         clear hi001_3 hl001_3
         have HR001_4 := Aside0.mk hi001_4
         have HC001_4 := Aside0.mk hl001_4
         clear hi001_4 hl001_4
         replace p001 := eq_true p001
         replace q001 := eq_true q001
         have p002 : 0 ≤ (x11_1 : Int) := of_decide_eq_true (by first | (with_reducible assumption) | assumption)
         have q002 : x11_1 < (l0.length : Int) := of_decide_eq_true (by first | (with_reducible assumption) | assumption)
         obtain ⟨ad002, A002_1, c002_1, A002_3, c002_3, A002_4, c002_4, e002, hx002_0, hx002_1, hx002_2, hx002_3, hx002_4, hl002_1, hi002_1, hl002_3, hi002_3, hl002_4, hi002_4⟩ := at_T44 HR0.out x11_1 p002 q002
         obtain rfl : ad001 = ad002 := (by injection e002)
         have HR002_1 := Aside0.mk hi002_1
         have HC002_1 := Aside0.mk hl002_1
         clear hi002_1 hl002_1
         have HR002_3 := Aside0.mk hi002_3
         have HC002_3 := Aside0.mk hl002_3
         clear hi002_3 hl002_3
         have HR002_4 := Aside0.mk hi002_4
         have HC002_4 := Aside0.mk hl002_4
         clear hi002_4 hl002_4
         replace p002 := eq_true p002
         replace q002 := eq_true q002
         have ea_ := Option.some.inj (hx001_1.symm.trans hx002_1)
         injection ea_ with ea_ en_ ec_
         subst ea_
         subst ec_
         clear en_
         have ea_ := Option.some.inj (hx001_3.symm.trans hx002_3)
         injection ea_ with ea_ en_ ec_
         subst ea_
         subst ec_
         clear en_
         have ea_ := Option.some.inj (hx001_4.symm.trans hx002_4)
         injection ea_ with ea_ en_ ec_
         subst ea_
         subst ec_
         clear en_
         have p003 : 0 ≤ (x11_1 : Int) := of_decide_eq_true (by first | (with_reducible assumption) | assumption)
         have q003 : x11_1 < (l0.length : Int) := of_decide_eq_true (by first | (with_reducible assumption) | assumption)
         obtain ⟨ad003, A003_1, c003_1, A003_3, c003_3, A003_4, c003_4, e003, hx003_0, hx003_1, hx003_2, hx003_3, hx003_4, hl003_1, hi003_1, hl003_3, hi003_3, hl003_4, hi003_4⟩ := at_T44 HR0.out x11_1 p003 q003
         obtain rfl : ad001 = ad003 := (by injection e003)
         have HR003_1 := Aside0.mk hi003_1
         have HC003_1 := Aside0.mk hl003_1
         clear hi003_1 hl003_1
         have HR003_3 := Aside0.mk hi003_3
         have HC003_3 := Aside0.mk hl003_3
         clear hi003_3 hl003_3
         have HR003_4 := Aside0.mk hi003_4
         have HC003_4 := Aside0.mk hl003_4
         clear hi003_4 hl003_4
         replace p003 := eq_true p003
         replace q003 := eq_true q003
         have ea_ := Option.some.inj (hx001_1.symm.trans hx003_1)
         injection ea_ with ea_ en_ ec_
         subst ea_
         subst ec_
         clear en_
         have ea_ := Option.some.inj (hx001_3.symm.trans hx003_3)
         injection ea_ with ea_ en_ ec_
         subst ea_
         subst ec_
         clear en_
         have ea_ := Option.some.inj (hx001_4.symm.trans hx003_4)
         injection ea_ with ea_ en_ ec_
         subst ea_
         subst ec_
         clear en_
         go_wp2_with (first | (go_at_call 26; (with_reducible refine (tinderref03_Same.calls k1 _ _ ((rd_T44 l0 x11_1).f1) _ _ l4 false _ ?side1 ?side2 ?side3 ?side4 A11.out).mono ?_); (case side1 => repeat (first | exact HR003_1.out | (with_reducible refine Kd.C_alloc ?_ _) | (with_reducible refine Kd.C_drewN ?_ _) | (with_reducible refine Kd.C_drew ?_))); (case side2 => exact HC003_1.out); (case side3 => repeat (first | exact HR4.out | (with_reducible refine Kd.C_alloc ?_ _) | (with_reducible refine Kd.C_drewN ?_ _) | (with_reducible refine Kd.C_drew ?_))); (case side4 => exact HC4.out); rintro e w' ⟨rfl, ⟨nd, rfl⟩⟩))
         go_roundg k1
         case measure => have := HK1.out; omega
         case rel => exact ⟨(wrap64 (x11_1 + 1)), (by first | rfl | (simp; done) | (simp [*]; done)), H', ⟨by have := HK1.out; omega⟩, by repeat (first | exact Drawn0.refl _ | apply Drawn0.step)⟩
       ·rw [if_neg c10] at H
        have c10b0 : (((rd_T44 l0 x11_1).f0).toList == a3.toList) = false := beq_eq_false_iff_ne.mpr c10
        have c10b1 : (((rd_T44 l0 x11_1).f0).toList != a3.toList) = true := bne_iff_ne.mpr c10
        have H' := Aside0.mk H
        clear H
        have p001 : 0 ≤ (x11_1 : Int) := of_decide_eq_true (by first | (with_reducible assumption) | assumption)
        have q001 : x11_1 < (l0.length : Int) := of_decide_eq_true (by first | (with_reducible assumption) | assumption)
        obtain ⟨ad001, A001_1, c001_1, A001_3, c001_3, A001_4, c001_4, e001, hx001_0, hx001_1, hx001_2, hx001_3, hx001_4, hl001_1, hi001_1, hl001_3, hi001_3, hl001_4, hi001_4⟩ := at_T44 HR0.out x11_1 p001 q001
        cases e001
        have HR001_1 := Aside0.mk hi001_1
        have HC001_1 := Aside0.mk hl001_1
        clear hi001_1 hl001_1
        have HR001_3 := Aside0.mk hi001_3
        have HC001_3 := Aside0.mk hl001_3
        clear hi001_3 hl001_3
        have HR001_4 := Aside0.mk hi001_4
        have HC001_4 := Aside0.mk hl001_4
        clear hi001_4 hl001_4
        replace p001 := eq_true p001
        replace q001 := eq_true q001
        have p002 : 0 ≤ (x11_1 : Int) := of_decide_eq_true (by first | (with_reducible assumption) | assumption)
        have q002 : x11_1 < (l0.length : Int) := of_decide_eq_true (by first | (with_reducible assumption) | assumption)
        obtain ⟨ad002, A002_1, c002_1, A002_3, c002_3, A002_4, c002_4, e002, hx002_0, hx002_1, hx002_2, hx002_3, hx002_4, hl002_1, hi002_1, hl002_3, hi002_3, hl002_4, hi002_4⟩ := at_T44 HR0.out x11_1 p002 q002
        obtain rfl : ad001 = ad002 := (by injection e002)
        have HR002_1 := Aside0.mk hi002_1
        have HC002_1 := Aside0.mk hl002_1
        clear hi002_1 hl002_1
        have HR002_3 := Aside0.mk hi002_3
        have HC002_3 := Aside0.mk hl002_3
        clear hi002_3 hl002_3
        have HR002_4 := Aside0.mk hi002_4
        have HC002_4 := Aside0.mk hl002_4
        clear hi002_4 hl002_4
        replace p002 := eq_true p002
        replace q002 := eq_true q002
        have ea_ := Option.some.inj (hx001_1.symm.trans hx002_1)
        injection ea_ with ea_ en_ ec_
        subst ea_
        subst ec_
        clear en_
        have ea_ := Option.some.inj (hx001_3.symm.trans hx002_3)
        injection ea_ with ea_ en_ ec_
        subst ea_
        subst ec_
        clear en_
        have ea_ := Option.some.inj (hx001_4.symm.trans hx002_4)
        injection ea_ with ea_ en_ ec_
        subst ea_
        subst ec_
        clear en_
        go_wp2
        go_roundg k1
        case measure => have := HK1.out; omega
        case rel => exact ⟨(wrap64 (x11_1 + 1)), (by first | rfl | (simp; done) | (simp [*]; done)), H', ⟨by have := HK1.out; omega⟩, by repeat (first | exact Drawn0.refl _ | apply Drawn0.step)⟩
      ·rw [if_neg c9] at H
       have c9b0 : (((rd_T44 l0 x11_1).f2) == a2) = false := beq_eq_false_iff_ne.mpr c9
       have c9b1 : (((rd_T44 l0 x11_1).f2) != a2) = true := bne_iff_ne.mpr c9
       have H' := Aside0.mk H
       clear H
       have p001 : 0 ≤ (x11_1 : Int) := of_decide_eq_true (by first | (with_reducible assumption) | assumption)
       have q001 : x11_1 < (l0.length : Int) := of_decide_eq_true (by first | (with_reducible assumption) | assumption)
       obtain ⟨ad001, A001_1, c001_1, A001_3, c001_3, A001_4, c001_4, e001, hx001_0, hx001_1, hx001_2, hx001_3, hx001_4, hl001_1, hi001_1, hl001_3, hi001_3, hl001_4, hi001_4⟩ := at_T44 HR0.out x11_1 p001 q001
       cases e001
       have HR001_1 := Aside0.mk hi001_1
       have HC001_1 := Aside0.mk hl001_1
       clear hi001_1 hl001_1
       have HR001_3 := Aside0.mk hi001_3
       have HC001_3 := Aside0.mk hl001_3
       clear hi001_3 hl001_3
       have HR001_4 := Aside0.mk hi001_4
       have HC001_4 := Aside0.mk hl001_4
       clear hi001_4 hl001_4
       replace p001 := eq_true p001
       replace q001 := eq_true q001
       go_wp2
       go_roundg k1
       case measure => have := HK1.out; omega
       case rel => exact ⟨(wrap64 (x11_1 + 1)), (by first | rfl | (simp; done) | (simp [*]; done)), H', ⟨by have := HK1.out; omega⟩, by repeat (first | exact Drawn0.refl _ | apply Drawn0.step)⟩
     ·rw [if_neg c8] at H
      exact absurd H (by simp)
    ·rw [if_neg c7] at H
     exact absurd H (by simp)
   ·rw [if_neg c6] at H
    have c6b0 : decide (x11_1 < a1) = false := decide_eq_false c6
    clear c6
    obtain rfl := Option.some.inj H
    go_wp2
    go_ret
    exact ⟨by first | rfl | (simp; done) | (simp [*]; done), by repeat (first | exact Drawn0.refl _ | apply Drawn0.step)⟩

end Go.Proofs.YtnalcjgefbelnaaDoor.Q
end
