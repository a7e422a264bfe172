/- Contracts of Go functions and plain facts, of several texts, one behind the other; no condition. -/
import Derived.Test.YtfpkakedlapmkaaMDictStarts2
import Derived.Deep.RegionHeld3
section
set_option linter.unusedSimpArgs false
set_option linter.unusedVariables false
namespace Go.Proofs.Ytfpkakedlapmkaa.Q
open Go.RowKit Go.Proofs.YtfpkakedlapmkaaW.PrintWords Go.Proofs.YtfpkakedlapmkaaW.PrintLast Go.Proofs.YtfpkakedlapmkaaW.PrintMore
attribute [local go_sem] max2_int min2_int max_two min_two max_three min_three max_four min_four
def pOk (l : List S106) (i : Nat) : Bool := namedF (l.getD i z106).f0 && (decide ((l.getD i z106).f1.length ≤ 256) && !(l.take i).any (isP (l.getD i z106).f0))
def propsF (l : List S106) : Bool := decide (l.length ≤ 16) && (List.range l.length).all (pOk l)
theorem info106s : (Try.prog.info? 106).map (·.size) = some 2 := by kernel_rfl
theorem range_all (n : Nat) (p : Nat → Bool) (h : ∀ j, j < n → p j = true) : (List.range n).all p = true := List.all_eq_true.2 (fun j hj => h j (List.mem_range.1 hj))
theorem range_not (n : Nat) (p : Nat → Bool) (j : Nat) (hj : j < n) (h : p j = false) : (List.range n).all p = false := by
  rw [List.all_eq_false]
  exact ⟨j, List.mem_range.2 hj, by rw [h]; exact Bool.false_ne_true⟩
/-- A box of two cells, and what lies below. -/
def Held2 (g : Nat) (a b : Value) (w w' : World) : Prop := (w'.cell? ⟨g, 0, none⟩ = some a ∧ w'.cell? ⟨g, 1, none⟩ = some b) ∧ Below w.heap.size w w'
theorem held2_start (wr w : World) (a b : Value) (t : Nat) (hb : Below w.heap.size w wr) : (((wr.alloc (.cells #[a, b] t)).cell? ⟨wr.heap.size, 0, none⟩ = some a ∧ (wr.alloc (.cells #[a, b] t)).cell? ⟨wr.heap.size, 1, none⟩ = some b) ∧ Below w.heap.size w (wr.alloc (.cells #[a, b] t))) := by
  have hh : (wr.alloc (.cells #[a, b] t)).heap[wr.heap.size]? = some (.cells #[a, b] t (0, 0)) := heap_alloc_new wr _
  exact ⟨⟨blk_cell hh 0, blk_cell hh 1⟩, below_alloc hb _⟩
theorem held2_drew (wr w : World) (a b : Value) (t : Nat) (hb : Below w.heap.size w wr) : (((wr.alloc (.cells #[a, b] t)).drew.cell? ⟨wr.heap.size, 0, none⟩ = some a ∧ (wr.alloc (.cells #[a, b] t)).drew.cell? ⟨wr.heap.size, 1, none⟩ = some b) ∧ Below w.heap.size w (wr.alloc (.cells #[a, b] t)).drew) :=
  ⟨(held2_start wr w a b t hb).1, below_drew1 (held2_start wr w a b t hb).2⟩
theorem held2_step {g : Nat} {a b : Value} {w W w2 : World} (h : (W.cell? ⟨g, 0, none⟩ = some a ∧ W.cell? ⟨g, 1, none⟩ = some b) ∧ Below w.heap.size w W) (hb : Below W.heap.size W w2) : (w2.cell? ⟨g, 0, none⟩ = some a ∧ w2.cell? ⟨g, 1, none⟩ = some b) ∧ Below w.heap.size w w2 :=
  ⟨⟨(hb.cell (World.block_lt_of_cell? _ _ h.1.1)).trans h.1.1, (hb.cell (World.block_lt_of_cell? _ _ h.1.2)).trans h.1.2⟩, below_step h.2 hb⟩
set_option maxHeartbeats 8000000 in
set_option maxRecDepth 100000 in
theorem propsFormed_calls (A : Option Addr) (c : Nat) (l : List S106) (w : World) (hC : Kd.C k106 w A l.length l) (hc : l.length ≤ c) :
    Calls Try.prog 72 #[.slice A l.length c] w fun e w' => e = .returned (.bool (propsF l)) ∧ Below w.heap.size w w' := by
  have hu106 := Try.underlying106
  have hm := Kd.C_max hC
  by_cases h16 : l.length ≤ 16
  · have d1 : decide ((16 : Int) < (l.length : Int)) = false := decide_eq_false (by omega)
    have HPF := Aside0.mk (show propsF l = (List.range l.length).all (pOk l) by unfold propsF; rw [decide_eq_true h16, Bool.true_and])
    have HC := Aside0.mk hC
    have HCC := Aside0.mk hc
    have H16 := Aside0.mk h16
    have HNM := Aside0.mk (fun (s : ByteArray) (W : World) => prop_Named.calls 400 s (namedF s) W (named_eq 400 (by decide) s))
    have HB0 := Aside0.mk (Below.refl w.heap.size w)
    have mixed : Try.prog.follows Departure.mixedOrders = true := by kernel_rfl
    clear hC hc hm h16
    go_enter Try.func72, Try.ntmps72
    go_wp2
    go_loopg [10] l.length (fun kq v8 w' => ∃ i : Int, v8 = .int .i64 i ∧ Aside0 (0 ≤ i ∧ i + kq = l.length) ∧ Aside0 (∀ j : Nat, j < i.toNat → pOk l j = true) ∧ Aside0 (Below w.heap.size w w'))
    case atStart => exact ⟨0, rfl, ⟨by omega, by omega⟩, ⟨fun j hj => absurd hj (by simp)⟩, ⟨Below.refl _ _⟩⟩
    case round =>
      obtain ⟨i, rfl, HI, HZ, HB⟩ := hrel
      cases gk with
      | zero =>
        have hlt : decide (i < (l.length : Int)) = false := decide_eq_false (by have := HI.out; omega)
        go_wp2
        go_ret
        have hz := HZ.out
        have hi := HI.out
        exact ⟨by rw [HPF.out, range_all _ _ (fun j hj => hz j (by omega))]; rfl, HB.out⟩
      | succ k1 =>
        have hi := HI.out
        have hlt : decide (i < (l.length : Int)) = true := decide_eq_true (by omega)
        have p1 : (0 ≤ i) = True := eq_true (by omega)
        have p2 : (i < (l.length : Int)) = True := eq_true (by omega)
        obtain ⟨ad, A1, c1, eA, hx0, hx1, hl1, hg1⟩ := at_T106 (Kd.C_below HC.out HB.out) i (by omega) (by omega)
        cases eA
        have hwr : IntKind.i64.wrap (i + 1) = i + 1 := (i64_w _).trans (by unfold wrap64; have := H16.out; omega)
        have hwr2 : wrap64 (i + 1) = i + 1 := by unfold wrap64; have := H16.out; omega
        have hcut := run_cut_hi (P := Try.prog) Try.underlying89 info106s (some ad) l.length c i (by omega) (by have := HCC.out; omega)
        have HTK := Aside0.mk (fun (W : World) (hb : Below w.heap.size w W) => (Kd.C_take (Kd.C_below HC.out hb) (by omega) : Kd.C k106 W (some ad) (l.take i.toNat).length (l.take i.toNat)))
        have HTL := Aside0.mk (show (l.take i.toNat).length = i.toNat by rw [List.length_take]; omega)
        have HPO := Aside0.mk (show pOk l i.toNat = (namedF (rd_T106 l i).f0 && (decide ((rd_T106 l i).f1.length ≤ 256) && !(l.take i.toNat).any (isP (rd_T106 l i).f0))) from rfl)
        generalize rd_T106 l i = x at *
        rw [← HTL.out] at hcut
        have HHI := Aside0.mk hi
        have HCN := Aside0.mk (fun (gb : Nat) (W : World) (hb : Below w.heap.size w W) (hh : W.heap[gb]? = some (.cells #[.string x.f0] 9 (0, 0))) => containsProp_calls x.f0 gb (some ad) c (l.take i.toNat) W (HTK.out W hb) hh)
        generalize l.take i.toNat = LT at *
        clear hi hl1 hg1
        have HNA := Aside0.mk (fun W : World => HNM.out x.f0 W)
        cases b1 : namedF x.f0
        · rw [b1] at HPO HNA
          go_wp2
          refine start_ (n := 19) (S := fun w' => (w'.cell? ⟨wr.heap.size, 0, none⟩ = some (.string x.f0) ∧ w'.cell? ⟨wr.heap.size, 1, none⟩ = some (.slice A1 x.f1.length c1)) ∧ Below w.heap.size w w') (ds := []) #[false, false, false, false, false, false, false, false, false, false, false, false, false, false, false, false, false, false, false] (by kernel_rfl) rfl rfl (held2_drew wr w _ _ _ HB.out) (fun hHeld => ?_)
          refine pure_ (i := 0) (N := some 15) (v := ?_) (a' := ?_) #[true, false, false, false, false, false, false, false, false, false, false, false, false, false, false, false, false, false, false] rfl rfl (by kernel_rfl) (fun _ _ _ h => h) (Or.inl ⟨by rfl, ?_⟩) ?_ ?_
          rotate_left
          · intro w'
            go_simp
            with_reducible rfl
          rotate_left
          · simp only [Act.put, List.setIfInBounds_toArray, List.set_cons_zero, List.set_cons_succ]
            rfl
          refine take_ (i := 1) (N := some 16) (v := (.string x.f0)) (a' := ?_) #[true, true, false, false, false, false, false, false, false, false, false, false, false, false, false, false, false, false, false] rfl rfl (by kernel_rfl) (fun _ _ _ h => h) (Or.inl ⟨by rfl, ?_⟩) hHeld ?_ ?_
          rotate_left
          rotate_left
          · simp only [Act.put, List.setIfInBounds_toArray, List.set_cons_zero, List.set_cons_succ]
            rfl
          rotate_left
          · rintro w' ⟨⟨s0, s1⟩, s2⟩
            go_simp
          refine one_ (i := 2) (N := some 17) #[true, true, true, false, false, false, false, false, false, false, false, false, false, false, false, false, false, false, false] rfl rfl (by kernel_rfl) (by decide) (fun K hK => ?_)
          refine goes_ Try.func73 (by kernel_rfl) rfl #[.string x.f0] (by rfl) rfl rfl (by first | rfl | (simp only [List.map_toArray, List.map_cons, List.map_nil]; rfl)) ?_
          refine (HNA.out _).mono ?_
          rintro e w2 ⟨rfl, hb⟩
          refine ⟨_, rfl, hK.out _ _ (held2_step hHeld hb) (fun hHeld => ?_)⟩
          clear hb
          clear hK K
          simp only [Act.put, List.setIfInBounds_toArray, List.set_cons_zero, List.set_cons_succ]
          refine pure_ (i := 3) (N := some 18) (v := ?_) (a' := ?_) #[true, true, true, true, false, false, false, false, false, false, false, false, false, false, false, false, false, false, false] rfl rfl (by kernel_rfl) (fun _ _ _ h => h) (Or.inl ⟨by rfl, ?_⟩) ?_ ?_
          rotate_left
          · intro w'
            go_simp
            with_reducible rfl
          rotate_left
          · simp only [Act.put, List.setIfInBounds_toArray, List.set_cons_zero, List.set_cons_succ]
            rfl
          refine pure_ (i := 4) (N := some 19) (v := ?_) (a' := ?_) #[true, true, true, true, true, false, false, false, false, false, false, false, false, false, false, false, false, false, false] rfl rfl (by kernel_rfl) (fun _ _ _ h => h) (Or.inl ⟨by rfl, ?_⟩) ?_ ?_
          rotate_left
          · intro w'
            go_simp
            with_reducible rfl
          rotate_left
          · simp only [Act.put, List.setIfInBounds_toArray, List.set_cons_zero, List.set_cons_succ]
            rfl
          refine pure_ (i := 5) (N := some 20) (v := undef) (a' := ?_) #[true, true, true, true, true, true, false, false, false, false, false, false, false, false, false, false, false, false, false] rfl rfl (by kernel_rfl) (fun _ _ _ h => h) (Or.inr ⟨by rfl, rfl⟩) ?_ ?_
          rotate_left
          · simp only [Act.put, List.setIfInBounds_toArray, List.set_cons_zero, List.set_cons_succ]
            rfl
          refine pure_ (i := 6) (N := some 21) (v := undef) (a' := ?_) #[true, true, true, true, true, true, true, false, false, false, false, false, false, false, false, false, false, false, false] rfl rfl (by kernel_rfl) (fun _ _ _ h => h) (Or.inr ⟨by rfl, rfl⟩) ?_ ?_
          rotate_left
          · simp only [Act.put, List.setIfInBounds_toArray, List.set_cons_zero, List.set_cons_succ]
            rfl
          refine pure_ (i := 7) (N := some 22) (v := undef) (a' := ?_) #[true, true, true, true, true, true, true, true, false, false, false, false, false, false, false, false, false, false, false] rfl rfl (by kernel_rfl) (fun _ _ _ h => h) (Or.inr ⟨by rfl, rfl⟩) ?_ ?_
          rotate_left
          · simp only [Act.put, List.setIfInBounds_toArray, List.set_cons_zero, List.set_cons_succ]
            rfl
          refine pure_ (i := 8) (N := some 23) (v := undef) (a' := ?_) #[true, true, true, true, true, true, true, true, true, false, false, false, false, false, false, false, false, false, false] rfl rfl (by kernel_rfl) (fun _ _ _ h => h) (Or.inr ⟨by rfl, rfl⟩) ?_ ?_
          rotate_left
          · simp only [Act.put, List.setIfInBounds_toArray, List.set_cons_zero, List.set_cons_succ]
            rfl
          refine pure_ (i := 9) (N := some 24) (v := ?_) (a' := ?_) #[true, true, true, true, true, true, true, true, true, true, false, false, false, false, false, false, false, false, false] rfl rfl (by kernel_rfl) (fun _ _ _ h => h) (Or.inl ⟨by rfl, ?_⟩) ?_ ?_
          rotate_left
          · intro w'
            go_simp
            with_reducible rfl
          rotate_left
          · simp only [Act.put, List.setIfInBounds_toArray, List.set_cons_zero, List.set_cons_succ]
            rfl
          refine pure_ (i := 10) (N := some 25) (v := ?_) (a' := ?_) #[true, true, true, true, true, true, true, true, true, true, true, false, false, false, false, false, false, false, false] rfl rfl (by kernel_rfl) (fun _ _ _ h => h) (Or.inl ⟨by rfl, ?_⟩) ?_ ?_
          rotate_left
          · intro w'
            go_simp
            with_reducible rfl
          rotate_left
          · simp only [Act.put, List.setIfInBounds_toArray, List.set_cons_zero, List.set_cons_succ]
            rfl
          refine pure_ (i := 11) (N := some 26) (v := undef) (a' := ?_) #[true, true, true, true, true, true, true, true, true, true, true, true, false, false, false, false, false, false, false] rfl rfl (by kernel_rfl) (fun _ _ _ h => h) (Or.inr ⟨by rfl, rfl⟩) ?_ ?_
          rotate_left
          · simp only [Act.put, List.setIfInBounds_toArray, List.set_cons_zero, List.set_cons_succ]
            rfl
          refine pure_ (i := 12) (N := some 27) (v := undef) (a' := ?_) #[true, true, true, true, true, true, true, true, true, true, true, true, true, false, false, false, false, false, false] rfl rfl (by kernel_rfl) (fun _ _ _ h => h) (Or.inr ⟨by rfl, rfl⟩) ?_ ?_
          rotate_left
          · simp only [Act.put, List.setIfInBounds_toArray, List.set_cons_zero, List.set_cons_succ]
            rfl
          refine pure_ (i := 13) (N := some 28) (v := undef) (a' := ?_) #[true, true, true, true, true, true, true, true, true, true, true, true, true, true, false, false, false, false, false] rfl rfl (by kernel_rfl) (fun _ _ _ h => h) (Or.inr ⟨by rfl, rfl⟩) ?_ ?_
          rotate_left
          · simp only [Act.put, List.setIfInBounds_toArray, List.set_cons_zero, List.set_cons_succ]
            rfl
          refine pure_ (i := 14) (N := some 29) (v := undef) (a' := ?_) #[true, true, true, true, true, true, true, true, true, true, true, true, true, true, true, false, false, false, false] rfl rfl (by kernel_rfl) (fun _ _ _ h => h) (Or.inr ⟨by rfl, rfl⟩) ?_ ?_
          rotate_left
          · simp only [Act.put, List.setIfInBounds_toArray, List.set_cons_zero, List.set_cons_succ]
            rfl
          refine pure_ (i := 15) (N := some 30) (v := undef) (a' := ?_) #[true, true, true, true, true, true, true, true, true, true, true, true, true, true, true, true, false, false, false] rfl rfl (by kernel_rfl) (fun _ _ _ h => h) (Or.inr ⟨by rfl, rfl⟩) ?_ ?_
          rotate_left
          · simp only [Act.put, List.setIfInBounds_toArray, List.set_cons_zero, List.set_cons_succ]
            rfl
          refine pure_ (i := 16) (N := some 31) (v := undef) (a' := ?_) #[true, true, true, true, true, true, true, true, true, true, true, true, true, true, true, true, true, false, false] rfl rfl (by kernel_rfl) (fun _ _ _ h => h) (Or.inr ⟨by rfl, rfl⟩) ?_ ?_
          rotate_left
          · simp only [Act.put, List.setIfInBounds_toArray, List.set_cons_zero, List.set_cons_succ]
            rfl
          refine pure_ (i := 17) (N := some 32) (v := undef) (a' := ?_) #[true, true, true, true, true, true, true, true, true, true, true, true, true, true, true, true, true, true, false] rfl rfl (by kernel_rfl) (fun _ _ _ h => h) (Or.inr ⟨by rfl, rfl⟩) ?_ ?_
          rotate_left
          · simp only [Act.put, List.setIfInBounds_toArray, List.set_cons_zero, List.set_cons_succ]
            rfl
          refine pure_ (i := 18) (N := some 33) (v := ?_) (a' := ?_) #[true, true, true, true, true, true, true, true, true, true, true, true, true, true, true, true, true, true, true] rfl rfl (by kernel_rfl) (fun _ _ _ h => h) (Or.inl ⟨by rfl, ?_⟩) ?_ ?_
          rotate_left
          · intro w'
            go_simp
            with_reducible rfl
          rotate_left
          · simp only [Act.put, List.setIfInBounds_toArray, List.set_cons_zero, List.set_cons_succ]
            rfl
          refine done_ (n := 0) (by kernel_rfl) ?_
          go_wp2
          go_ret
          have hi := HHI.out
          exact ⟨by rw [HPF.out, range_not _ _ i.toNat (by omega) (by rw [HPO.out]; rfl)]; rfl, hHeld.2⟩
        · rw [b1] at HPO HNA
          cases b2 : decide (x.f1.length ≤ 256)
          · rw [b2] at HPO
            have d2 : decide ((256 : Int) < (x.f1.length : Int)) = true := decide_eq_true (by have := of_decide_eq_false b2; omega)
            clear b1 b2
            go_wp2
            refine start_ (n := 19) (S := fun w' => (w'.cell? ⟨wr.heap.size, 0, none⟩ = some (.string x.f0) ∧ w'.cell? ⟨wr.heap.size, 1, none⟩ = some (.slice A1 x.f1.length c1)) ∧ Below w.heap.size w w') (ds := []) #[false, false, false, false, false, false, false, false, false, false, false, false, false, false, false, false, false, false, false] (by kernel_rfl) rfl rfl (held2_drew wr w _ _ _ HB.out) (fun hHeld => ?_)
            refine pure_ (i := 0) (N := some 15) (v := ?_) (a' := ?_) #[true, false, false, false, false, false, false, false, false, false, false, false, false, false, false, false, false, false, false] rfl rfl (by kernel_rfl) (fun _ _ _ h => h) (Or.inl ⟨by rfl, ?_⟩) ?_ ?_
            rotate_left
            · intro w'
              go_simp
              with_reducible rfl
            rotate_left
            · simp only [Act.put, List.setIfInBounds_toArray, List.set_cons_zero, List.set_cons_succ]
              rfl
            refine take_ (i := 1) (N := some 16) (v := (.string x.f0)) (a' := ?_) #[true, true, false, false, false, false, false, false, false, false, false, false, false, false, false, false, false, false, false] rfl rfl (by kernel_rfl) (fun _ _ _ h => h) (Or.inl ⟨by rfl, ?_⟩) hHeld ?_ ?_
            rotate_left
            rotate_left
            · simp only [Act.put, List.setIfInBounds_toArray, List.set_cons_zero, List.set_cons_succ]
              rfl
            rotate_left
            · rintro w' ⟨⟨s0, s1⟩, s2⟩
              go_simp
            refine one_ (i := 2) (N := some 17) #[true, true, true, false, false, false, false, false, false, false, false, false, false, false, false, false, false, false, false] rfl rfl (by kernel_rfl) (by decide) (fun K hK => ?_)
            refine goes_ Try.func73 (by kernel_rfl) rfl #[.string x.f0] (by rfl) rfl rfl (by first | rfl | (simp only [List.map_toArray, List.map_cons, List.map_nil]; rfl)) ?_
            refine (HNA.out _).mono ?_
            rintro e w2 ⟨rfl, hb⟩
            refine ⟨_, rfl, hK.out _ _ (held2_step hHeld hb) (fun hHeld => ?_)⟩
            clear hb
            clear hK K
            simp only [Act.put, List.setIfInBounds_toArray, List.set_cons_zero, List.set_cons_succ]
            refine pure_ (i := 3) (N := some 18) (v := ?_) (a' := ?_) #[true, true, true, true, false, false, false, false, false, false, false, false, false, false, false, false, false, false, false] rfl rfl (by kernel_rfl) (fun _ _ _ h => h) (Or.inl ⟨by rfl, ?_⟩) ?_ ?_
            rotate_left
            · intro w'
              go_simp
              with_reducible rfl
            rotate_left
            · simp only [Act.put, List.setIfInBounds_toArray, List.set_cons_zero, List.set_cons_succ]
              rfl
            refine pure_ (i := 4) (N := some 19) (v := ?_) (a' := ?_) #[true, true, true, true, true, false, false, false, false, false, false, false, false, false, false, false, false, false, false] rfl rfl (by kernel_rfl) (fun _ _ _ h => h) (Or.inl ⟨by rfl, ?_⟩) ?_ ?_
            rotate_left
            · intro w'
              go_simp
              with_reducible rfl
            rotate_left
            · simp only [Act.put, List.setIfInBounds_toArray, List.set_cons_zero, List.set_cons_succ]
              rfl
            refine pure_ (i := 5) (N := some 20) (v := ?_) (a' := ?_) #[true, true, true, true, true, true, false, false, false, false, false, false, false, false, false, false, false, false, false] rfl rfl (by kernel_rfl) (fun _ _ _ h => h) (Or.inl ⟨by rfl, ?_⟩) ?_ ?_
            rotate_left
            · intro w'
              go_simp
              with_reducible rfl
            rotate_left
            · simp only [Act.put, List.setIfInBounds_toArray, List.set_cons_zero, List.set_cons_succ]
              rfl
            refine take_ (i := 6) (N := some 21) (v := (.slice A1 x.f1.length c1)) (a' := ?_) #[true, true, true, true, true, true, true, false, false, false, false, false, false, false, false, false, false, false, false] rfl rfl (by kernel_rfl) (fun _ _ _ h => h) (Or.inl ⟨by rfl, ?_⟩) hHeld ?_ ?_
            rotate_left
            rotate_left
            · simp only [Act.put, List.setIfInBounds_toArray, List.set_cons_zero, List.set_cons_succ]
              rfl
            rotate_left
            · rintro w' ⟨⟨s0, s1⟩, s2⟩
              go_simp
            refine pure_ (i := 7) (N := some 22) (v := ?_) (a' := ?_) #[true, true, true, true, true, true, true, true, false, false, false, false, false, false, false, false, false, false, false] rfl rfl (by kernel_rfl) (fun _ _ _ h => h) (Or.inl ⟨by rfl, ?_⟩) ?_ ?_
            rotate_left
            · intro w'
              go_simp
              with_reducible rfl
            rotate_left
            · simp only [Act.put, List.setIfInBounds_toArray, List.set_cons_zero, List.set_cons_succ]
              rfl
            refine pure_ (i := 8) (N := some 23) (v := ?_) (a' := ?_) #[true, true, true, true, true, true, true, true, true, false, false, false, false, false, false, false, false, false, false] rfl rfl (by kernel_rfl) (fun _ _ _ h => h) (Or.inl ⟨by rfl, ?_⟩) ?_ ?_
            rotate_left
            · intro w'
              go_simp
              with_reducible rfl
            rotate_left
            · simp only [Act.put, List.setIfInBounds_toArray, List.set_cons_zero, List.set_cons_succ]
              rfl
            refine pure_ (i := 9) (N := some 24) (v := ?_) (a' := ?_) #[true, true, true, true, true, true, true, true, true, true, false, false, false, false, false, false, false, false, false] rfl rfl (by kernel_rfl) (fun _ _ _ h => h) (Or.inl ⟨by rfl, ?_⟩) ?_ ?_
            rotate_left
            · intro w'
              go_simp
              with_reducible rfl
            rotate_left
            · simp only [Act.put, List.setIfInBounds_toArray, List.set_cons_zero, List.set_cons_succ]
              rfl
            refine pure_ (i := 10) (N := some 25) (v := ?_) (a' := ?_) #[true, true, true, true, true, true, true, true, true, true, true, false, false, false, false, false, false, false, false] rfl rfl (by kernel_rfl) (fun _ _ _ h => h) (Or.inl ⟨by rfl, ?_⟩) ?_ ?_
            rotate_left
            · intro w'
              go_simp
              with_reducible rfl
            rotate_left
            · simp only [Act.put, List.setIfInBounds_toArray, List.set_cons_zero, List.set_cons_succ]
              rfl
            refine pure_ (i := 11) (N := some 26) (v := undef) (a' := ?_) #[true, true, true, true, true, true, true, true, true, true, true, true, false, false, false, false, false, false, false] rfl rfl (by kernel_rfl) (fun _ _ _ h => h) (Or.inr ⟨by rfl, rfl⟩) ?_ ?_
            rotate_left
            · simp only [Act.put, List.setIfInBounds_toArray, List.set_cons_zero, List.set_cons_succ]
              rfl
            refine pure_ (i := 12) (N := some 27) (v := undef) (a' := ?_) #[true, true, true, true, true, true, true, true, true, true, true, true, true, false, false, false, false, false, false] rfl rfl (by kernel_rfl) (fun _ _ _ h => h) (Or.inr ⟨by rfl, rfl⟩) ?_ ?_
            rotate_left
            · simp only [Act.put, List.setIfInBounds_toArray, List.set_cons_zero, List.set_cons_succ]
              rfl
            refine pure_ (i := 13) (N := some 28) (v := undef) (a' := ?_) #[true, true, true, true, true, true, true, true, true, true, true, true, true, true, false, false, false, false, false] rfl rfl (by kernel_rfl) (fun _ _ _ h => h) (Or.inr ⟨by rfl, rfl⟩) ?_ ?_
            rotate_left
            · simp only [Act.put, List.setIfInBounds_toArray, List.set_cons_zero, List.set_cons_succ]
              rfl
            refine pure_ (i := 14) (N := some 29) (v := undef) (a' := ?_) #[true, true, true, true, true, true, true, true, true, true, true, true, true, true, true, false, false, false, false] rfl rfl (by kernel_rfl) (fun _ _ _ h => h) (Or.inr ⟨by rfl, rfl⟩) ?_ ?_
            rotate_left
            · simp only [Act.put, List.setIfInBounds_toArray, List.set_cons_zero, List.set_cons_succ]
              rfl
            refine pure_ (i := 15) (N := some 30) (v := undef) (a' := ?_) #[true, true, true, true, true, true, true, true, true, true, true, true, true, true, true, true, false, false, false] rfl rfl (by kernel_rfl) (fun _ _ _ h => h) (Or.inr ⟨by rfl, rfl⟩) ?_ ?_
            rotate_left
            · simp only [Act.put, List.setIfInBounds_toArray, List.set_cons_zero, List.set_cons_succ]
              rfl
            refine pure_ (i := 16) (N := some 31) (v := undef) (a' := ?_) #[true, true, true, true, true, true, true, true, true, true, true, true, true, true, true, true, true, false, false] rfl rfl (by kernel_rfl) (fun _ _ _ h => h) (Or.inr ⟨by rfl, rfl⟩) ?_ ?_
            rotate_left
            · simp only [Act.put, List.setIfInBounds_toArray, List.set_cons_zero, List.set_cons_succ]
              rfl
            refine pure_ (i := 17) (N := some 32) (v := undef) (a' := ?_) #[true, true, true, true, true, true, true, true, true, true, true, true, true, true, true, true, true, true, false] rfl rfl (by kernel_rfl) (fun _ _ _ h => h) (Or.inr ⟨by rfl, rfl⟩) ?_ ?_
            rotate_left
            · simp only [Act.put, List.setIfInBounds_toArray, List.set_cons_zero, List.set_cons_succ]
              rfl
            refine pure_ (i := 18) (N := some 33) (v := ?_) (a' := ?_) #[true, true, true, true, true, true, true, true, true, true, true, true, true, true, true, true, true, true, true] rfl rfl (by kernel_rfl) (fun _ _ _ h => h) (Or.inl ⟨by rfl, ?_⟩) ?_ ?_
            rotate_left
            · intro w'
              go_simp
              with_reducible rfl
            rotate_left
            · simp only [Act.put, List.setIfInBounds_toArray, List.set_cons_zero, List.set_cons_succ]
              rfl
            refine done_ (n := 0) (by kernel_rfl) ?_
            go_wp2
            go_ret
            have hi := HHI.out
            exact ⟨by rw [HPF.out, range_not _ _ i.toNat (by omega) (by rw [HPO.out]; rfl)]; rfl, hHeld.2⟩
          · rw [b2] at HPO
            have d2 : decide ((256 : Int) < (x.f1.length : Int)) = false := decide_eq_false (by have := of_decide_eq_true b2; omega)
            clear b2
            cases b3 : LT.any (isP x.f0)
            · rw [b3] at HPO
              rw [b3] at HCN
              clear b1 b3
              go_wp2
              refine start_ (n := 19) (S := fun w' => (w'.cell? ⟨wr.heap.size, 0, none⟩ = some (.string x.f0) ∧ w'.cell? ⟨wr.heap.size, 1, none⟩ = some (.slice A1 x.f1.length c1)) ∧ Below w.heap.size w w') (ds := []) #[false, false, false, false, false, false, false, false, false, false, false, false, false, false, false, false, false, false, false] (by kernel_rfl) rfl rfl (held2_drew wr w _ _ _ HB.out) (fun hHeld => ?_)
              refine pure_ (i := 0) (N := some 15) (v := ?_) (a' := ?_) #[true, false, false, false, false, false, false, false, false, false, false, false, false, false, false, false, false, false, false] rfl rfl (by kernel_rfl) (fun _ _ _ h => h) (Or.inl ⟨by rfl, ?_⟩) ?_ ?_
              rotate_left
              · intro w'
                go_simp
                with_reducible rfl
              rotate_left
              · simp only [Act.put, List.setIfInBounds_toArray, List.set_cons_zero, List.set_cons_succ]
                rfl
              refine take_ (i := 1) (N := some 16) (v := (.string x.f0)) (a' := ?_) #[true, true, false, false, false, false, false, false, false, false, false, false, false, false, false, false, false, false, false] rfl rfl (by kernel_rfl) (fun _ _ _ h => h) (Or.inl ⟨by rfl, ?_⟩) hHeld ?_ ?_
              rotate_left
              rotate_left
              · simp only [Act.put, List.setIfInBounds_toArray, List.set_cons_zero, List.set_cons_succ]
                rfl
              rotate_left
              · rintro w' ⟨⟨s0, s1⟩, s2⟩
                go_simp
              refine one_ (i := 2) (N := some 17) #[true, true, true, false, false, false, false, false, false, false, false, false, false, false, false, false, false, false, false] rfl rfl (by kernel_rfl) (by decide) (fun K hK => ?_)
              refine goes_ Try.func73 (by kernel_rfl) rfl #[.string x.f0] (by rfl) rfl rfl (by first | rfl | (simp only [List.map_toArray, List.map_cons, List.map_nil]; rfl)) ?_
              refine (HNA.out _).mono ?_
              rintro e w2 ⟨rfl, hb⟩
              refine ⟨_, rfl, hK.out _ _ (held2_step hHeld hb) (fun hHeld => ?_)⟩
              clear hb
              clear hK K
              simp only [Act.put, List.setIfInBounds_toArray, List.set_cons_zero, List.set_cons_succ]
              refine pure_ (i := 3) (N := some 18) (v := ?_) (a' := ?_) #[true, true, true, true, false, false, false, false, false, false, false, false, false, false, false, false, false, false, false] rfl rfl (by kernel_rfl) (fun _ _ _ h => h) (Or.inl ⟨by rfl, ?_⟩) ?_ ?_
              rotate_left
              · intro w'
                go_simp
                with_reducible rfl
              rotate_left
              · simp only [Act.put, List.setIfInBounds_toArray, List.set_cons_zero, List.set_cons_succ]
                rfl
              refine pure_ (i := 4) (N := some 19) (v := ?_) (a' := ?_) #[true, true, true, true, true, false, false, false, false, false, false, false, false, false, false, false, false, false, false] rfl rfl (by kernel_rfl) (fun _ _ _ h => h) (Or.inl ⟨by rfl, ?_⟩) ?_ ?_
              rotate_left
              · intro w'
                go_simp
                with_reducible rfl
              rotate_left
              · simp only [Act.put, List.setIfInBounds_toArray, List.set_cons_zero, List.set_cons_succ]
                rfl
              refine pure_ (i := 5) (N := some 20) (v := ?_) (a' := ?_) #[true, true, true, true, true, true, false, false, false, false, false, false, false, false, false, false, false, false, false] rfl rfl (by kernel_rfl) (fun _ _ _ h => h) (Or.inl ⟨by rfl, ?_⟩) ?_ ?_
              rotate_left
              · intro w'
                go_simp
                with_reducible rfl
              rotate_left
              · simp only [Act.put, List.setIfInBounds_toArray, List.set_cons_zero, List.set_cons_succ]
                rfl
              refine take_ (i := 6) (N := some 21) (v := (.slice A1 x.f1.length c1)) (a' := ?_) #[true, true, true, true, true, true, true, false, false, false, false, false, false, false, false, false, false, false, false] rfl rfl (by kernel_rfl) (fun _ _ _ h => h) (Or.inl ⟨by rfl, ?_⟩) hHeld ?_ ?_
              rotate_left
              rotate_left
              · simp only [Act.put, List.setIfInBounds_toArray, List.set_cons_zero, List.set_cons_succ]
                rfl
              rotate_left
              · rintro w' ⟨⟨s0, s1⟩, s2⟩
                go_simp
              refine pure_ (i := 7) (N := some 22) (v := ?_) (a' := ?_) #[true, true, true, true, true, true, true, true, false, false, false, false, false, false, false, false, false, false, false] rfl rfl (by kernel_rfl) (fun _ _ _ h => h) (Or.inl ⟨by rfl, ?_⟩) ?_ ?_
              rotate_left
              · intro w'
                go_simp
                with_reducible rfl
              rotate_left
              · simp only [Act.put, List.setIfInBounds_toArray, List.set_cons_zero, List.set_cons_succ]
                rfl
              refine pure_ (i := 8) (N := some 23) (v := ?_) (a' := ?_) #[true, true, true, true, true, true, true, true, true, false, false, false, false, false, false, false, false, false, false] rfl rfl (by kernel_rfl) (fun _ _ _ h => h) (Or.inl ⟨by rfl, ?_⟩) ?_ ?_
              rotate_left
              · intro w'
                go_simp
                with_reducible rfl
              rotate_left
              · simp only [Act.put, List.setIfInBounds_toArray, List.set_cons_zero, List.set_cons_succ]
                rfl
              refine pure_ (i := 9) (N := some 24) (v := ?_) (a' := ?_) #[true, true, true, true, true, true, true, true, true, true, false, false, false, false, false, false, false, false, false] rfl rfl (by kernel_rfl) (fun _ _ _ h => h) (Or.inl ⟨by rfl, ?_⟩) ?_ ?_
              rotate_left
              · intro w'
                go_simp
                with_reducible rfl
              rotate_left
              · simp only [Act.put, List.setIfInBounds_toArray, List.set_cons_zero, List.set_cons_succ]
                rfl
              refine pure_ (i := 10) (N := some 25) (v := ?_) (a' := ?_) #[true, true, true, true, true, true, true, true, true, true, true, false, false, false, false, false, false, false, false] rfl rfl (by kernel_rfl) (fun _ _ _ h => h) (Or.inl ⟨by rfl, ?_⟩) ?_ ?_
              rotate_left
              · intro w'
                go_simp
                with_reducible rfl
              rotate_left
              · simp only [Act.put, List.setIfInBounds_toArray, List.set_cons_zero, List.set_cons_succ]
                rfl
              refine pure_ (i := 11) (N := some 26) (v := ?_) (a' := ?_) #[true, true, true, true, true, true, true, true, true, true, true, true, false, false, false, false, false, false, false] rfl rfl (by kernel_rfl) (fun _ _ _ h => h) (Or.inl ⟨by rfl, ?_⟩) ?_ ?_
              rotate_left
              · intro w'
                go_simp
                with_reducible rfl
              rotate_left
              · simp only [Act.put, List.setIfInBounds_toArray, List.set_cons_zero, List.set_cons_succ]
                rfl
              refine pure_ (i := 12) (N := some 27) (v := ?_) (a' := ?_) #[true, true, true, true, true, true, true, true, true, true, true, true, true, false, false, false, false, false, false] rfl rfl (by kernel_rfl) (fun _ _ _ h => h) (Or.inl ⟨by rfl, ?_⟩) ?_ ?_
              rotate_left
              · intro w'
                go_simp
                with_reducible rfl
              rotate_left
              · simp only [Act.put, List.setIfInBounds_toArray, List.set_cons_zero, List.set_cons_succ]
                rfl
              refine pure_ (i := 13) (N := some 28) (v := ?_) (a' := ?_) #[true, true, true, true, true, true, true, true, true, true, true, true, true, true, false, false, false, false, false] rfl rfl (by kernel_rfl) (fun _ _ _ h => h) (Or.inl ⟨by rfl, ?_⟩) ?_ ?_
              rotate_left
              · intro w'
                go_simp
                with_reducible rfl
              rotate_left
              · simp only [Act.put, List.setIfInBounds_toArray, List.set_cons_zero, List.set_cons_succ]
                rfl
              refine pure_ (i := 14) (N := some 29) (v := ?_) (a' := ?_) #[true, true, true, true, true, true, true, true, true, true, true, true, true, true, true, false, false, false, false] rfl rfl (by kernel_rfl) (fun _ _ _ h => h) (Or.inl ⟨by rfl, ?_⟩) ?_ ?_
              rotate_left
              · intro w'
                go_simp
                with_reducible rfl
              rotate_left
              · simp only [Act.put, List.setIfInBounds_toArray, List.set_cons_zero, List.set_cons_succ]
                rfl
              refine take_ (i := 15) (N := some 30) (v := (.string x.f0)) (a' := ?_) #[true, true, true, true, true, true, true, true, true, true, true, true, true, true, true, true, false, false, false] rfl rfl (by kernel_rfl) (fun _ _ _ h => h) (Or.inl ⟨by rfl, ?_⟩) hHeld ?_ ?_
              rotate_left
              rotate_left
              · simp only [Act.put, List.setIfInBounds_toArray, List.set_cons_zero, List.set_cons_succ]
                rfl
              rotate_left
              · rintro w' ⟨⟨s0, s1⟩, s2⟩
                go_simp
              refine one_ (i := 16) (N := some 31) #[true, true, true, true, true, true, true, true, true, true, true, true, true, true, true, true, true, false, false] rfl rfl (by kernel_rfl) (by decide) (fun K hK => ?_)
              refine goes_ Try.func91 (by kernel_rfl) rfl #[.string x.f0] (by rfl) rfl rfl (by first | rfl | (simp only [List.map_toArray, List.map_cons, List.map_nil]; rfl)) ?_
              refine (namedP_calls x.f0 _).mono ?_
              rintro e w3 ⟨gb, rfl, hgb, hh, hb⟩
              have HH := Aside0.mk hh
              refine ⟨_, rfl, hK.out _ _ (held2_step hHeld hb) (fun hHeld => ?_)⟩
              clear hgb hh hb
              clear hK K
              simp only [Act.put, List.setIfInBounds_toArray, List.set_cons_zero, List.set_cons_succ]
              refine one_ (i := 17) (N := some 32) #[true, true, true, true, true, true, true, true, true, true, true, true, true, true, true, true, true, true, false] rfl rfl (by kernel_rfl) (by decide) (fun K hK => ?_)
              refine goes_ Try.func90 (by kernel_rfl) rfl #[.slice (some ad) LT.length c, .func (.func 99) #[] #[.pointer (some ⟨gb, 0, none⟩)]] (by rfl) rfl rfl (by first | rfl | (simp only [List.map_toArray, List.map_cons, List.map_nil]; rfl)) ?_
              refine (HCN.out gb _ hHeld.2 HH.out).mono ?_
              rintro e w4 ⟨rfl, hb⟩
              refine ⟨_, rfl, hK.out _ _ (held2_step hHeld hb) (fun hHeld => ?_)⟩
              clear hb
              clear hK K
              simp only [Act.put, List.setIfInBounds_toArray, List.set_cons_zero, List.set_cons_succ]
              refine pure_ (i := 18) (N := some 33) (v := ?_) (a' := ?_) #[true, true, true, true, true, true, true, true, true, true, true, true, true, true, true, true, true, true, true] rfl rfl (by kernel_rfl) (fun _ _ _ h => h) (Or.inl ⟨by rfl, ?_⟩) ?_ ?_
              rotate_left
              · intro w'
                go_simp
                with_reducible rfl
              rotate_left
              · simp only [Act.put, List.setIfInBounds_toArray, List.set_cons_zero, List.set_cons_succ]
                rfl
              refine done_ (n := 0) (by kernel_rfl) ?_
              go_wp2
              go_roundg k1
              case measure => omega
              case rel =>
                have hi := HHI.out
                refine ⟨i + 1, rfl, ⟨by omega, by omega⟩, ⟨fun j hj => ?_⟩, ⟨hHeld.2⟩⟩
                by_cases hji : j = i.toNat
                · subst hji
                  rw [HPO.out]
                  rfl
                · exact HZ.out j (by omega)
            · rw [b3] at HPO HCN
              clear b1 b3
              go_wp2
              refine start_ (n := 19) (S := fun w' => (w'.cell? ⟨wr.heap.size, 0, none⟩ = some (.string x.f0) ∧ w'.cell? ⟨wr.heap.size, 1, none⟩ = some (.slice A1 x.f1.length c1)) ∧ Below w.heap.size w w') (ds := []) #[false, false, false, false, false, false, false, false, false, false, false, false, false, false, false, false, false, false, false] (by kernel_rfl) rfl rfl (held2_drew wr w _ _ _ HB.out) (fun hHeld => ?_)
              refine pure_ (i := 0) (N := some 15) (v := ?_) (a' := ?_) #[true, false, false, false, false, false, false, false, false, false, false, false, false, false, false, false, false, false, false] rfl rfl (by kernel_rfl) (fun _ _ _ h => h) (Or.inl ⟨by rfl, ?_⟩) ?_ ?_
              rotate_left
              · intro w'
                go_simp
                with_reducible rfl
              rotate_left
              · simp only [Act.put, List.setIfInBounds_toArray, List.set_cons_zero, List.set_cons_succ]
                rfl
              refine take_ (i := 1) (N := some 16) (v := (.string x.f0)) (a' := ?_) #[true, true, false, false, false, false, false, false, false, false, false, false, false, false, false, false, false, false, false] rfl rfl (by kernel_rfl) (fun _ _ _ h => h) (Or.inl ⟨by rfl, ?_⟩) hHeld ?_ ?_
              rotate_left
              rotate_left
              · simp only [Act.put, List.setIfInBounds_toArray, List.set_cons_zero, List.set_cons_succ]
                rfl
              rotate_left
              · rintro w' ⟨⟨s0, s1⟩, s2⟩
                go_simp
              refine one_ (i := 2) (N := some 17) #[true, true, true, false, false, false, false, false, false, false, false, false, false, false, false, false, false, false, false] rfl rfl (by kernel_rfl) (by decide) (fun K hK => ?_)
              refine goes_ Try.func73 (by kernel_rfl) rfl #[.string x.f0] (by rfl) rfl rfl (by first | rfl | (simp only [List.map_toArray, List.map_cons, List.map_nil]; rfl)) ?_
              refine (HNA.out _).mono ?_
              rintro e w2 ⟨rfl, hb⟩
              refine ⟨_, rfl, hK.out _ _ (held2_step hHeld hb) (fun hHeld => ?_)⟩
              clear hb
              clear hK K
              simp only [Act.put, List.setIfInBounds_toArray, List.set_cons_zero, List.set_cons_succ]
              refine pure_ (i := 3) (N := some 18) (v := ?_) (a' := ?_) #[true, true, true, true, false, false, false, false, false, false, false, false, false, false, false, false, false, false, false] rfl rfl (by kernel_rfl) (fun _ _ _ h => h) (Or.inl ⟨by rfl, ?_⟩) ?_ ?_
              rotate_left
              · intro w'
                go_simp
                with_reducible rfl
              rotate_left
              · simp only [Act.put, List.setIfInBounds_toArray, List.set_cons_zero, List.set_cons_succ]
                rfl
              refine pure_ (i := 4) (N := some 19) (v := ?_) (a' := ?_) #[true, true, true, true, true, false, false, false, false, false, false, false, false, false, false, false, false, false, false] rfl rfl (by kernel_rfl) (fun _ _ _ h => h) (Or.inl ⟨by rfl, ?_⟩) ?_ ?_
              rotate_left
              · intro w'
                go_simp
                with_reducible rfl
              rotate_left
              · simp only [Act.put, List.setIfInBounds_toArray, List.set_cons_zero, List.set_cons_succ]
                rfl
              refine pure_ (i := 5) (N := some 20) (v := ?_) (a' := ?_) #[true, true, true, true, true, true, false, false, false, false, false, false, false, false, false, false, false, false, false] rfl rfl (by kernel_rfl) (fun _ _ _ h => h) (Or.inl ⟨by rfl, ?_⟩) ?_ ?_
              rotate_left
              · intro w'
                go_simp
                with_reducible rfl
              rotate_left
              · simp only [Act.put, List.setIfInBounds_toArray, List.set_cons_zero, List.set_cons_succ]
                rfl
              refine take_ (i := 6) (N := some 21) (v := (.slice A1 x.f1.length c1)) (a' := ?_) #[true, true, true, true, true, true, true, false, false, false, false, false, false, false, false, false, false, false, false] rfl rfl (by kernel_rfl) (fun _ _ _ h => h) (Or.inl ⟨by rfl, ?_⟩) hHeld ?_ ?_
              rotate_left
              rotate_left
              · simp only [Act.put, List.setIfInBounds_toArray, List.set_cons_zero, List.set_cons_succ]
                rfl
              rotate_left
              · rintro w' ⟨⟨s0, s1⟩, s2⟩
                go_simp
              refine pure_ (i := 7) (N := some 22) (v := ?_) (a' := ?_) #[true, true, true, true, true, true, true, true, false, false, false, false, false, false, false, false, false, false, false] rfl rfl (by kernel_rfl) (fun _ _ _ h => h) (Or.inl ⟨by rfl, ?_⟩) ?_ ?_
              rotate_left
              · intro w'
                go_simp
                with_reducible rfl
              rotate_left
              · simp only [Act.put, List.setIfInBounds_toArray, List.set_cons_zero, List.set_cons_succ]
                rfl
              refine pure_ (i := 8) (N := some 23) (v := ?_) (a' := ?_) #[true, true, true, true, true, true, true, true, true, false, false, false, false, false, false, false, false, false, false] rfl rfl (by kernel_rfl) (fun _ _ _ h => h) (Or.inl ⟨by rfl, ?_⟩) ?_ ?_
              rotate_left
              · intro w'
                go_simp
                with_reducible rfl
              rotate_left
              · simp only [Act.put, List.setIfInBounds_toArray, List.set_cons_zero, List.set_cons_succ]
                rfl
              refine pure_ (i := 9) (N := some 24) (v := ?_) (a' := ?_) #[true, true, true, true, true, true, true, true, true, true, false, false, false, false, false, false, false, false, false] rfl rfl (by kernel_rfl) (fun _ _ _ h => h) (Or.inl ⟨by rfl, ?_⟩) ?_ ?_
              rotate_left
              · intro w'
                go_simp
                with_reducible rfl
              rotate_left
              · simp only [Act.put, List.setIfInBounds_toArray, List.set_cons_zero, List.set_cons_succ]
                rfl
              refine pure_ (i := 10) (N := some 25) (v := ?_) (a' := ?_) #[true, true, true, true, true, true, true, true, true, true, true, false, false, false, false, false, false, false, false] rfl rfl (by kernel_rfl) (fun _ _ _ h => h) (Or.inl ⟨by rfl, ?_⟩) ?_ ?_
              rotate_left
              · intro w'
                go_simp
                with_reducible rfl
              rotate_left
              · simp only [Act.put, List.setIfInBounds_toArray, List.set_cons_zero, List.set_cons_succ]
                rfl
              refine pure_ (i := 11) (N := some 26) (v := ?_) (a' := ?_) #[true, true, true, true, true, true, true, true, true, true, true, true, false, false, false, false, false, false, false] rfl rfl (by kernel_rfl) (fun _ _ _ h => h) (Or.inl ⟨by rfl, ?_⟩) ?_ ?_
              rotate_left
              · intro w'
                go_simp
                with_reducible rfl
              rotate_left
              · simp only [Act.put, List.setIfInBounds_toArray, List.set_cons_zero, List.set_cons_succ]
                rfl
              refine pure_ (i := 12) (N := some 27) (v := ?_) (a' := ?_) #[true, true, true, true, true, true, true, true, true, true, true, true, true, false, false, false, false, false, false] rfl rfl (by kernel_rfl) (fun _ _ _ h => h) (Or.inl ⟨by rfl, ?_⟩) ?_ ?_
              rotate_left
              · intro w'
                go_simp
                with_reducible rfl
              rotate_left
              · simp only [Act.put, List.setIfInBounds_toArray, List.set_cons_zero, List.set_cons_succ]
                rfl
              refine pure_ (i := 13) (N := some 28) (v := ?_) (a' := ?_) #[true, true, true, true, true, true, true, true, true, true, true, true, true, true, false, false, false, false, false] rfl rfl (by kernel_rfl) (fun _ _ _ h => h) (Or.inl ⟨by rfl, ?_⟩) ?_ ?_
              rotate_left
              · intro w'
                go_simp
                with_reducible rfl
              rotate_left
              · simp only [Act.put, List.setIfInBounds_toArray, List.set_cons_zero, List.set_cons_succ]
                rfl
              refine pure_ (i := 14) (N := some 29) (v := ?_) (a' := ?_) #[true, true, true, true, true, true, true, true, true, true, true, true, true, true, true, false, false, false, false] rfl rfl (by kernel_rfl) (fun _ _ _ h => h) (Or.inl ⟨by rfl, ?_⟩) ?_ ?_
              rotate_left
              · intro w'
                go_simp
                with_reducible rfl
              rotate_left
              · simp only [Act.put, List.setIfInBounds_toArray, List.set_cons_zero, List.set_cons_succ]
                rfl
              refine take_ (i := 15) (N := some 30) (v := (.string x.f0)) (a' := ?_) #[true, true, true, true, true, true, true, true, true, true, true, true, true, true, true, true, false, false, false] rfl rfl (by kernel_rfl) (fun _ _ _ h => h) (Or.inl ⟨by rfl, ?_⟩) hHeld ?_ ?_
              rotate_left
              rotate_left
              · simp only [Act.put, List.setIfInBounds_toArray, List.set_cons_zero, List.set_cons_succ]
                rfl
              rotate_left
              · rintro w' ⟨⟨s0, s1⟩, s2⟩
                go_simp
              refine one_ (i := 16) (N := some 31) #[true, true, true, true, true, true, true, true, true, true, true, true, true, true, true, true, true, false, false] rfl rfl (by kernel_rfl) (by decide) (fun K hK => ?_)
              refine goes_ Try.func91 (by kernel_rfl) rfl #[.string x.f0] (by rfl) rfl rfl (by first | rfl | (simp only [List.map_toArray, List.map_cons, List.map_nil]; rfl)) ?_
              refine (namedP_calls x.f0 _).mono ?_
              rintro e w3 ⟨gb, rfl, hgb, hh, hb⟩
              have HH := Aside0.mk hh
              refine ⟨_, rfl, hK.out _ _ (held2_step hHeld hb) (fun hHeld => ?_)⟩
              clear hgb hh hb
              clear hK K
              simp only [Act.put, List.setIfInBounds_toArray, List.set_cons_zero, List.set_cons_succ]
              refine one_ (i := 17) (N := some 32) #[true, true, true, true, true, true, true, true, true, true, true, true, true, true, true, true, true, true, false] rfl rfl (by kernel_rfl) (by decide) (fun K hK => ?_)
              refine goes_ Try.func90 (by kernel_rfl) rfl #[.slice (some ad) LT.length c, .func (.func 99) #[] #[.pointer (some ⟨gb, 0, none⟩)]] (by rfl) rfl rfl (by first | rfl | (simp only [List.map_toArray, List.map_cons, List.map_nil]; rfl)) ?_
              refine (HCN.out gb _ hHeld.2 HH.out).mono ?_
              rintro e w4 ⟨rfl, hb⟩
              refine ⟨_, rfl, hK.out _ _ (held2_step hHeld hb) (fun hHeld => ?_)⟩
              clear hb
              clear hK K
              simp only [Act.put, List.setIfInBounds_toArray, List.set_cons_zero, List.set_cons_succ]
              refine pure_ (i := 18) (N := some 33) (v := ?_) (a' := ?_) #[true, true, true, true, true, true, true, true, true, true, true, true, true, true, true, true, true, true, true] rfl rfl (by kernel_rfl) (fun _ _ _ h => h) (Or.inl ⟨by rfl, ?_⟩) ?_ ?_
              rotate_left
              · intro w'
                go_simp
                with_reducible rfl
              rotate_left
              · simp only [Act.put, List.setIfInBounds_toArray, List.set_cons_zero, List.set_cons_succ]
                rfl
              refine done_ (n := 0) (by kernel_rfl) ?_
              go_wp2
              go_ret
              have hi := HHI.out
              exact ⟨by rw [HPF.out, range_not _ _ i.toNat (by omega) (by rw [HPO.out]; rfl)]; rfl, hHeld.2⟩
  · have d1 : decide ((16 : Int) < (l.length : Int)) = true := decide_eq_true (by omega)
    have HPF := Aside0.mk (show propsF l = false by unfold propsF; rw [decide_eq_false h16, Bool.false_and])
    clear hC hc hm h16
    go_enter Try.func72, Try.ntmps72
    go_wp2
    go_ret
    exact ⟨by rw [HPF.out]; rfl, Below.refl _ _⟩
end Go.Proofs.Ytfpkakedlapmkaa.Q
end
section
namespace Go.Proofs.Ytfpkakedlapmkaa.Q
open Go.RowKit Go.Proofs.YtfpkakedlapmkaaW.PrintWords Go.Proofs.YtfpkakedlapmkaaW.PrintLast Go.Proofs.YtfpkakedlapmkaaW.PrintMore
set_option linter.unusedVariables false
set_option linter.unusedSimpArgs false

attribute [local go_sem] max2_int min2_int max_two min_two max_three min_three max_four min_four
/-! ### slices_Equal_uint32_uint32: function 95 -/
def slices_Equal_uint32_uint32.l0 : Nat → List Int → List Int → Int → Int → Option (Bool)
  | 0, _, _, _, _ => none
  | k + 1, x0, x1, x12, x13 => if x13 < x12 then (if 0 ≤ x13 then (if x13 < (x0.length : Int) then (if x13 < (x1.length : Int) then (if (rd x0 x13) = (rd x1 x13) then (slices_Equal_uint32_uint32.l0 k x0 x1 x12 (wrap64 (x13 + 1))) else (some false)) else (none)) else (none)) else (none)) else (some true)
def slices_Equal_uint32_uint32.f (k : Nat) (l0 : List Int) (l1 : List Int) : Option (Bool) := if (l0.length : Int) = (l1.length : Int) then (slices_Equal_uint32_uint32.l0 k l0 l1 (l0.length : Int) 0) else (some false)
set_option maxHeartbeats 8000000 in
set_option maxRecDepth 100000 in
theorem slices_Equal_uint32_uint32.calls (k : Nat) (A0 : Option Addr) (c0 : Nat) (l0 : List Int) (A1 : Option Addr) (c1 : Nat) (l1 : List Int) (r : Bool) (w : World) (hr0 : Kd.C (Kd.int .u32) w A0 l0.length l0) (hc0 : l0.length ≤ c0) (hr1 : Kd.C (Kd.int .u32) w A1 l1.length l1) (hc1 : l1.length ≤ c1) (h : slices_Equal_uint32_uint32.f k l0 l1 = some r) :
    Calls Try.prog 95 #[.slice A0 l0.length c0, .slice A1 l1.length c1] w fun e w' => e = .returned (.bool r) ∧ Drawn0 w w' := by
  have HR0 := Aside0.mk hr0
  have HC0 := Aside0.mk hc0
  clear hr0 hc0
  have HR1 := Aside0.mk hr1
  have HC1 := Aside0.mk hc1
  clear hr1 hc1
  have H : (if (l0.length : Int) = (l1.length : Int) then (slices_Equal_uint32_uint32.l0 k l0 l1 (l0.length : Int) 0) else (some false)) = some r := h
  clear h
  by_cases c3 : (l0.length : Int) = (l1.length : Int)
  · rw [if_pos c3] at H
    have c3b0 : ((l0.length : Int) == (l1.length : Int)) = true := beq_iff_eq.mpr c3
    have c3b1 : ((l0.length : Int) != (l1.length : Int)) = false := bne_eq_false_iff_eq.mpr c3
    have c3b2 : (l0.length == l1.length) = true := by first | simpa using c3 | (simp at c3 ⊢; omega)
    clear c3
    have H' := Aside0.mk H
    clear H
    go_enter Try.func95, Try.ntmps95
    go_wp2
    repeat (go_quiet (fail); try go_wp2)
    go_loopg [13] k (fun kq v13 w' => ∃ (x13_1 : Int), v13 = .int .i64 x13_1 ∧ Aside0 (slices_Equal_uint32_uint32.l0 kq l0 l1 (l0.length : Int) x13_1 = some r) ∧ Aside0 (kq ≤ k) ∧ Drawn0 w w')
    case atStart => exact ⟨(0), (by first | rfl | (simp; done) | (simp [*]; done)), H', ⟨Nat.le_refl _⟩, by repeat (first | exact Drawn0.refl _ | apply Drawn0.step)⟩
    case round =>
      clear H'
      try clear c1
      try clear p2
      try clear c3
      try clear c3b0
      try clear c3b1
      try clear c3b2
      obtain ⟨x13_1, rfl, HA, HK1, ⟨m1, rfl⟩⟩ := hrel
      cases gk with
      | zero => exact absurd HA.out (by simp [slices_Equal_uint32_uint32.l0])
      | succ k1 =>
        have H := HA.out
        clear HA
        simp only [slices_Equal_uint32_uint32.l0] at H
        by_cases c4 : x13_1 < (l0.length : Int)
        · rw [if_pos c4] at H
          have c4b0 : decide (x13_1 < (l0.length : Int)) = true := decide_eq_true c4
          clear c4
          by_cases c5 : 0 ≤ x13_1
          · rw [if_pos c5] at H
            have c5b0 : decide (0 ≤ x13_1) = true := decide_eq_true c5
            clear c5
            by_cases c6 : x13_1 < (l0.length : Int)
            · rw [if_pos c6] at H
              have c6b0 : decide (x13_1 < (l0.length : Int)) = true := decide_eq_true c6
              clear c6
              by_cases c7 : x13_1 < (l1.length : Int)
              · rw [if_pos c7] at H
                have c7b0 : decide (x13_1 < (l1.length : Int)) = true := decide_eq_true c7
                clear c7
                by_cases c8 : (rd l0 x13_1) = (rd l1 x13_1)
                · rw [if_pos c8] at H
                  have c8b0 : ((rd l0 x13_1) == (rd l1 x13_1)) = true := beq_iff_eq.mpr c8
                  have c8b1 : ((rd l0 x13_1) != (rd l1 x13_1)) = false := bne_eq_false_iff_eq.mpr c8
                  clear c8
                  have H' := Aside0.mk H
                  clear H
                  have p96001 : 0 ≤ (x13_1 : Int) := of_decide_eq_true (by first | (with_reducible assumption) | assumption)
                  have q96001 : x13_1 < (l0.length : Int) := of_decide_eq_true (by first | (with_reducible assumption) | assumption)
                  obtain ⟨ad96001, e96001, hx96001_0⟩ := Kd.at_int HR0.out x13_1 p96001 q96001
                  cases e96001
                  replace p96001 := eq_true p96001
                  replace q96001 := eq_true q96001
                  have p96002 : 0 ≤ (x13_1 : Int) := of_decide_eq_true (by first | (with_reducible assumption) | assumption)
                  have q96002 : x13_1 < (l1.length : Int) := of_decide_eq_true (by first | (with_reducible assumption) | assumption)
                  obtain ⟨ad96002, e96002, hx96002_0⟩ := Kd.at_int HR1.out x13_1 p96002 q96002
                  cases e96002
                  replace p96002 := eq_true p96002
                  replace q96002 := eq_true q96002
                  go_wp2
                  repeat (go_quiet (fail); try go_wp2)
                  go_roundg k1
                  case measure => have := HK1.out; omega
                  case rel => exact ⟨(wrap64 (x13_1 + 1)), (by first | rfl | (simp; done) | (simp [*]; done)), H', ⟨by have := HK1.out; omega⟩, by repeat (first | exact Drawn0.refl _ | apply Drawn0.step)⟩
                · rw [if_neg c8] at H
                  have c8b0 : ((rd l0 x13_1) == (rd l1 x13_1)) = false := beq_eq_false_iff_ne.mpr c8
                  have c8b1 : ((rd l0 x13_1) != (rd l1 x13_1)) = true := bne_iff_ne.mpr c8
                  obtain rfl := Option.some.inj H
                  have p96001 : 0 ≤ (x13_1 : Int) := of_decide_eq_true (by first | (with_reducible assumption) | assumption)
                  have q96001 : x13_1 < (l0.length : Int) := of_decide_eq_true (by first | (with_reducible assumption) | assumption)
                  obtain ⟨ad96001, e96001, hx96001_0⟩ := Kd.at_int HR0.out x13_1 p96001 q96001
                  cases e96001
                  replace p96001 := eq_true p96001
                  replace q96001 := eq_true q96001
                  have p96002 : 0 ≤ (x13_1 : Int) := of_decide_eq_true (by first | (with_reducible assumption) | assumption)
                  have q96002 : x13_1 < (l1.length : Int) := of_decide_eq_true (by first | (with_reducible assumption) | assumption)
                  obtain ⟨ad96002, e96002, hx96002_0⟩ := Kd.at_int HR1.out x13_1 p96002 q96002
                  cases e96002
                  replace p96002 := eq_true p96002
                  replace q96002 := eq_true q96002
                  go_wp2
                  repeat (go_quiet (fail); try go_wp2)
                  go_ret
                  exact ⟨by first | rfl | (simp; done) | (simp [*]; done), by repeat (first | exact Drawn0.refl _ | apply Drawn0.step)⟩
              · rw [if_neg c7] at H
                exact absurd H (by simp)
            · rw [if_neg c6] at H
              exact absurd H (by simp)
          · rw [if_neg c5] at H
            exact absurd H (by simp)
        · rw [if_neg c4] at H
          have c4b0 : decide (x13_1 < (l0.length : Int)) = false := decide_eq_false c4
          clear c4
          obtain rfl := Option.some.inj H
          go_wp2
          repeat (go_quiet (fail); try go_wp2)
          go_ret
          exact ⟨by first | rfl | (simp; done) | (simp [*]; done), by repeat (first | exact Drawn0.refl _ | apply Drawn0.step)⟩
  · rw [if_neg c3] at H
    have c3b0 : ((l0.length : Int) == (l1.length : Int)) = false := beq_eq_false_iff_ne.mpr c3
    have c3b1 : ((l0.length : Int) != (l1.length : Int)) = true := bne_iff_ne.mpr c3
    have c3b2 : (l0.length == l1.length) = false := by first | simpa using c3 | (simp at c3 ⊢; omega)
    obtain rfl := Option.some.inj H
    go_enter Try.func95, Try.ntmps95
    go_wp2
    repeat (go_quiet (fail); try go_wp2)
    go_ret
    exact ⟨by first | rfl | (simp; done) | (simp [*]; done), by repeat (first | exact Drawn0.refl _ | apply Drawn0.step)⟩

/-- THE ONE PURE STATEMENT of slices_Equal_uint32_uint32: yours. -/
def slices_Equal_uint32_uint32.Pure : Prop := ∀ (l0 : List Int) (l1 : List Int), l0.length ≤ maxLen → l0.length * 4 ≤ 140737488351232 → (∀ x ∈ l0, (Lit.int .u32 x).wf = true) → l1.length ≤ maxLen → l1.length * 4 ≤ 140737488351232 → (∀ x ∈ l1, (Lit.int .u32 x).wf = true) → ∃ k, slices_Equal_uint32_uint32.f k l0 l1 = some true

end Go.Proofs.Ytfpkakedlapmkaa.Q
end
section
set_option linter.unusedSimpArgs false
set_option linter.unusedVariables false
namespace Go.Proofs.Ytfpkakedlapmkaa.Q
open Go.RowKit Go.Proofs.YtfpkakedlapmkaaW.PrintWords Go.Proofs.YtfpkakedlapmkaaW.PrintLast Go.Proofs.YtfpkakedlapmkaaW.PrintMore
attribute [local go_sem] max2_int min2_int max_two min_two max_three min_three max_four min_four
theorem int_drop (l : List Int) (i : Int) (h0 : 0 ≤ i) (h1 : i < l.length) : l.drop i.toNat = rd l i :: l.drop (i + 1).toNat := by
  rw [List.drop_eq_getElem_cons (show i.toNat < l.length by omega), show (i + 1).toNat = i.toNat + 1 by omega]
  simp [rd, List.getD_eq_getElem?_getD, List.getElem?_eq_getElem (show i.toNat < l.length by omega)]
theorem equal_go (a b : List Int) (hl : a.length = b.length) (hm : a.length ≤ 9223372036854775807) : ∀ (d k : Nat) (i : Int), 0 ≤ i → i + d = a.length → d < k → slices_Equal_uint32_uint32.l0 k a b a.length i = some (decide (a.drop i.toNat = b.drop i.toNat))
  | 0, k, i, h0, h1, hk => by
    obtain ⟨k, rfl⟩ : ∃ m, k = m + 1 := ⟨k - 1, by omega⟩
    rw [slices_Equal_uint32_uint32.l0, if_neg (by omega), List.drop_eq_nil_of_le (by omega), List.drop_eq_nil_of_le (by omega), decide_eq_true rfl]
  | d + 1, k, i, h0, h1, hk => by
    obtain ⟨k, rfl⟩ : ∃ m, k = m + 1 := ⟨k - 1, by omega⟩
    have hw : wrap64 (i + 1) = i + 1 := by unfold wrap64; omega
    rw [slices_Equal_uint32_uint32.l0, if_pos (by omega), if_pos h0, if_pos (by omega), if_pos (by omega), hw, equal_go a b hl hm d k (i + 1) (by omega) (by omega) (by omega), int_drop a i h0 (by omega), int_drop b i h0 (by omega)]
    by_cases he : rd a i = rd b i
    · rw [if_pos he]
      congr 1
      refine decide_eq_decide.2 ⟨fun h => by rw [he, h], fun h => (List.cons.inj h).2⟩
    · rw [if_neg he, decide_eq_false (fun h => he (List.cons.inj h).1)]
theorem equal_eq (a b : List Int) (hm : a.length ≤ 9223372036854775807) (k : Nat) (hk : a.length < k) : slices_Equal_uint32_uint32.f k a b = some (decide (a = b)) := by
  unfold slices_Equal_uint32_uint32.f
  by_cases hl : a.length = b.length
  · rw [if_pos (by omega), equal_go a b hl hm a.length k 0 (Int.le_refl _) (by omega) hk]
    rfl
  · rw [if_neg (by omega), decide_eq_false (fun h => hl (by rw [h]))]
/-- Has a device that parent, name and address? -/
def isN (p : Int) (s : ByteArray) (u : List Int) (x : S91) : Bool := (x.f2 == p) && ((x.f0.toList == s.toList) && decide (x.f1 = u))
theorem is_calls (p : Int) (s : ByteArray) (AU : Option Addr) (lu cu : Nat) (w : World) :
    Calls Try.prog 75 #[.int .i64 p, .string s, .slice AU lu cu] w fun e w' => ∃ g1 g2 g3, e = .returned (.func (.func 94) #[] #[.pointer (some ⟨g1, 0, none⟩), .pointer (some ⟨g2, 0, none⟩), .pointer (some ⟨g3, 0, none⟩)]) ∧ (w.heap.size ≤ g1 ∧ w.heap.size ≤ g2 ∧ w.heap.size ≤ g3) ∧ w'.heap[g1]? = some (.cells #[.int .i64 p] 3 (0, 0)) ∧ w'.heap[g2]? = some (.cells #[.string s] 9 (0, 0)) ∧ w'.heap[g3]? = some (.cells #[.slice AU lu cu] 24 (0, 0)) ∧ Below w.heap.size w w' := by
  have HB0 := Aside0.mk (Below.refl w.heap.size w)
  go_enter Try.func75, Try.ntmps75
  go_wp2_with (first
    | ((with_reducible refine gate_dst (N := 3) rfl ?_); refine box_event ?hg (N := 3) ?hd (cs := #[.int .i64 p]) (t := 3) ?hr ?_; (case hd => rfl); (case hg => rfl); (case hr => first | (go_simp; done) | (go_simp; rfl)); intro g1 hg1 w1 hbox hb; have K1 := Aside0.mk hbox; have B1 := Aside0.mk hb; have G1 := Aside0.mk (show w.heap.size ≤ g1 from hg1 ▸ Nat.le_refl _); clear hbox hb hg1)
    | ((with_reducible refine gate_dst (N := 4) rfl ?_); refine box_event ?hg (N := 4) ?hd (cs := #[.string s]) (t := 9) ?hr ?_; (case hd => rfl); (case hg => rfl); (case hr => first | (go_simp; done) | (go_simp; rfl)); intro g2 hg2 w2 hbox hb; have K2 := Aside0.mk hbox; have L1 := Aside0.mk ((hb.block g1 (blk_lt K1.out)).trans K1.out); have B2 := Aside0.mk (below_step B1.out hb); have G2 := Aside0.mk (show w.heap.size ≤ g2 from hg2 ▸ B1.out.size); clear hbox hb hg2)
    | ((with_reducible refine gate_dst (N := 5) rfl ?_); refine box_event ?hg (N := 5) ?hd (cs := #[.slice AU lu cu]) (t := 24) ?hr ?_; (case hd => rfl); (case hg => rfl); (case hr => first | (go_simp; done) | (go_simp; rfl)); intro g3 hg3 w3 hbox hb; have K3 := Aside0.mk hbox; have M1 := Aside0.mk ((hb.block g1 (blk_lt L1.out)).trans L1.out); have M2 := Aside0.mk ((hb.block g2 (blk_lt K2.out)).trans K2.out); have B3 := Aside0.mk (below_step B2.out hb); have G3 := Aside0.mk (show w.heap.size ≤ g3 from hg3 ▸ B2.out.size); clear hbox hb hg3))
  go_ret
  exact ⟨g1, g2, g3, rfl, ⟨G1.out, G2.out, G3.out⟩, M1.out, M2.out, K3.out, B3.out⟩
set_option maxHeartbeats 2000000 in
theorem isC_calls (x : S91) (A1 : Option Addr) (c1 : Nat) (A3 : Option Addr) (c3 : Nat) (A4 : Option Addr) (c4 : Nat) (p : Int) (s : ByteArray) (u : List Int) (AU : Option Addr) (cu : Nat) (g1 g2 g3 : Nat) (w : World) (h1 : w.heap[g1]? = some (.cells #[.int .i64 p] 3 (0, 0))) (h2 : w.heap[g2]? = some (.cells #[.string s] 9 (0, 0))) (h3 : w.heap[g3]? = some (.cells #[.slice AU u.length cu] 24 (0, 0)))
    (hx : Kd.C (Kd.int .u32) w A1 x.f1.length x.f1) (hxc : x.f1.length ≤ c1) (hu : Kd.C (Kd.int .u32) w AU u.length u) (huc : u.length ≤ cu) :
    Calls Try.prog 94 #[.agg #[.string x.f0, .slice A1 x.f1.length c1, .int .i64 x.f2, .slice A3 x.f3.length c3, .slice A4 x.f4.length c4], .pointer (some ⟨g1, 0, none⟩), .pointer (some ⟨g2, 0, none⟩), .pointer (some ⟨g3, 0, none⟩)] w fun e w' => e = .returned (.bool (isN p s u x)) ∧ Below w.heap.size w w' := by
  have hu91 := Try.underlying91
  have hm := Kd.C_max hx
  have hEq := fun (W : World) (hb : Below w.heap.size w W) => slices_Equal_uint32_uint32.calls 9223372036854775808 A1 c1 x.f1 AU cu u (decide (x.f1 = u)) W (Kd.C_below hx hb) hxc (Kd.C_below hu hb) huc (equal_eq x.f1 u (by omega) _ (by omega))
  have HEQ := Aside0.mk hEq
  have HL := Aside0.mk (⟨blk_lt h1, blk_lt h2, blk_lt h3⟩ : g1 < w.heap.size ∧ g2 < w.heap.size ∧ g3 < w.heap.size)
  have H1 := Aside0.mk h1
  have H2 := Aside0.mk h2
  have H3 := Aside0.mk h3
  have HI := Aside0.mk (show isN p s u x = ((x.f2 == p) && ((x.f0.toList == s.toList) && decide (x.f1 = u))) from rfl)
  clear h1 h2 h3 hx hxc hu huc hm hEq
  cases b1 : (x.f2 == p) <;> cases b2 : (x.f0.toList == s.toList)
  all_goals (
    rw [b1, b2] at HI
    go_enter Try.func94, Try.ntmps94
    go_wp2_with (first
      | ((with_reducible refine gate_dst (N := 4) rfl ?_); refine box_event ?hg (N := 4) ?hd (cs := #[.string x.f0, .slice A1 x.f1.length c1, .int .i64 x.f2, .slice A3 x.f3.length c3, .slice A4 x.f4.length c4]) (t := 91) ?hr ?_; (case hd => rfl); (case hg => rfl); (case hr => first | (go_simp; done) | (go_simp; rfl)); intro ga hga w1 hbox hb; have BK := Aside0.mk hbox; have hz0 := (blk_cell BK.out 0).trans rfl; have hz1 := (blk_cell BK.out 1).trans rfl; have hz2 := (blk_cell BK.out 2).trans rfl; have hf0 := blk_frozen BK.out 0; have hf1 := blk_frozen BK.out 1; have hf2 := blk_frozen BK.out 2; have hy1 : w1.cell? ⟨g1, 0, none⟩ = some (.int .i64 p) := (hb.cell (p := ⟨g1, 0, none⟩) HL.out.1).trans ((blk_cell H1.out 0).trans rfl); have hy2 : w1.cell? ⟨g2, 0, none⟩ = some (.string s) := (hb.cell (p := ⟨g2, 0, none⟩) HL.out.2.1).trans ((blk_cell H2.out 0).trans rfl); have hy3 : w1.cell? ⟨g3, 0, none⟩ = some (.slice AU u.length cu) := (hb.cell (p := ⟨g3, 0, none⟩) HL.out.2.2).trans ((blk_cell H3.out 0).trans rfl); have HB := Aside0.mk hb; clear hbox hb hga)
      | (go_at_call 95; (with_reducible refine (HEQ.out _ HB.out).mono ?_); rintro e w2 ⟨rfl, hd⟩; obtain ⟨n, rfl⟩ := hd.out; clear hd))
    go_ret
    exact ⟨by rw [HI.out]; rfl, by first | exact HB.out | exact pw_below_drewN HB.out _⟩)
set_option maxHeartbeats 2000000 in
set_option maxRecDepth 100000 in
theorem indexNode_calls (p : Int) (s : ByteArray) (u : List Int) (AU : Option Addr) (cu : Nat) (g1 g2 g3 : Nat) (A : Option Addr) (c : Nat) (l : List S91) (w : World) (hC : Kd.C k91 w A l.length l) (h1 : w.heap[g1]? = some (.cells #[.int .i64 p] 3 (0, 0))) (h2 : w.heap[g2]? = some (.cells #[.string s] 9 (0, 0))) (h3 : w.heap[g3]? = some (.cells #[.slice AU u.length cu] 24 (0, 0))) (hu : Kd.C (Kd.int .u32) w AU u.length u) (huc : u.length ≤ cu) :
    Calls Try.prog 93 #[.slice A l.length c, .func (.func 94) #[] #[.pointer (some ⟨g1, 0, none⟩), .pointer (some ⟨g2, 0, none⟩), .pointer (some ⟨g3, 0, none⟩)]] w fun e w' => e = .returned (.int .i64 (idxP (isN p s u) l)) ∧ Below w.heap.size w w' := by
  have hu91 := Try.underlying91
  have t1 := blk_lt h1
  have t2 := blk_lt h2
  have t3 := blk_lt h3
  have HC := Aside0.mk hC
  have HF := Aside0.mk (fun (x : S91) (A1 : Option Addr) (c1 : Nat) (A3 : Option Addr) (c3 : Nat) (A4 : Option Addr) (c4 : Nat) (W : World) (hb : Below w.heap.size w W) (hx : Kd.C (Kd.int .u32) W A1 x.f1.length x.f1) (hxc : x.f1.length ≤ c1) => isC_calls x A1 c1 A3 c3 A4 c4 p s u AU cu g1 g2 g3 W (by rw [hb.block g1 t1]; exact h1) (by rw [hb.block g2 t2]; exact h2) (by rw [hb.block g3 t3]; exact h3) hx hxc (Kd.C_below hu hb) huc)
  clear hC h1 h2 h3 hu huc
  go_enter Try.func93, Try.ntmps93
  go_wp2
  go_loopg [8] l.length (fun kq v8 w' => ∃ i : Int, v8 = .int .i64 i ∧ Aside0 (0 ≤ i ∧ i + kq = l.length) ∧ Aside0 (∀ j : Nat, j < i.toNat → (isN p s u) (l.getD j z91) = false) ∧ Aside0 (Below w.heap.size w w'))
  case atStart => exact ⟨0, rfl, ⟨by omega, by omega⟩, ⟨fun j hj => absurd hj (by simp)⟩, ⟨Below.refl _ _⟩⟩
  case round =>
    obtain ⟨i, rfl, HI, HZ, HB⟩ := hrel
    cases gk with
    | zero =>
      have hlt : decide (i < (l.length : Int)) = false := decide_eq_false (by have := HI.out; omega)
      go_wp2
      go_ret
      have hz := HZ.out
      have hi := HI.out
      refine ⟨?_, HB.out⟩
      rw [idxP_drop (isN p s u) z91 l i.toNat hz, List.drop_eq_nil_of_le (by omega)]
      rfl
    | succ k1 =>
      have hi := HI.out
      have hm := Kd.C_max HC.out
      have hlt : decide (i < (l.length : Int)) = true := decide_eq_true (by omega)
      have p1 : (0 ≤ i) = True := eq_true (by omega)
      have p2 : (i < (l.length : Int)) = True := eq_true (by omega)
      obtain ⟨ad, A1, c1, A3, c3, A4, c4, eA, hx0, hx1, hx2, hx3, hx4, hl1, hg1, hl3, hg3, hl4, hg4⟩ := at_T91 (Kd.C_below HC.out HB.out) i (by omega) (by omega)
      cases eA
      have HGD := Aside0.mk (show rd_T91 l i = l.getD i.toNat z91 from rfl)
      have HIN := Aside0.mk (show (isN p s u) (rd_T91 l i) = true → idxP (isN p s u) l = i from fun h => by
        rw [idxP_here (isN p s u) z91 l i.toNat HZ.out (by omega) h]
        omega)
      have hwr : IntKind.i64.wrap (i + 1) = i + 1 := (i64_w _).trans (by unfold wrap64; omega)
      have hwr2 : wrap64 (i + 1) = i + 1 := by unfold wrap64; omega
      have HG1 := Aside0.mk hg1; have HL1 := Aside0.mk hl1; clear hl1 hg1 hl3 hg3 hl4 hg4
      clear hi hm
      obtain ⟨b, hb0⟩ : ∃ b, b = (isN p s u) (rd_T91 l i) := ⟨_, rfl⟩
      have HBP := Aside0.mk hb0
      cases b with
      | true =>
        clear hb0
        go_wp2_with (first
          | (go_at_call 94; (with_reducible refine (HF.out (rd_T91 l i) A1 c1 A3 c3 A4 c4 _ HB.out HG1.out HL1.out).mono ?_); rintro e w2 ⟨rfl, hb⟩; rw [← HBP.out]; have HB2 := Aside0.mk (below_step HB.out hb); clear hb))
        go_ret
        exact ⟨by rw [HIN.out HBP.out.symm]; rfl, HB2.out⟩
      | false =>
        clear hb0
        go_wp2_with (first
          | (go_at_call 94; (with_reducible refine (HF.out (rd_T91 l i) A1 c1 A3 c3 A4 c4 _ HB.out HG1.out HL1.out).mono ?_); rintro e w2 ⟨rfl, hb⟩; rw [← HBP.out]; have HB2 := Aside0.mk (below_step HB.out hb); clear hb))
        go_roundg k1
        case measure => omega
        case rel =>
          have hi := HI.out
          refine ⟨i + 1, rfl, ⟨by omega, by omega⟩, ⟨fun j hj => ?_⟩, HB2⟩
          by_cases hji : j = i.toNat
          · subst hji
            rw [← HGD.out]
            exact HBP.out.symm
          · exact HZ.out j (by omega)
theorem containsNode_calls (p : Int) (s : ByteArray) (u : List Int) (AU : Option Addr) (cu : Nat) (g1 g2 g3 : Nat) (A : Option Addr) (c : Nat) (l : List S91) (w : World) (hC : Kd.C k91 w A l.length l) (h1 : w.heap[g1]? = some (.cells #[.int .i64 p] 3 (0, 0))) (h2 : w.heap[g2]? = some (.cells #[.string s] 9 (0, 0))) (h3 : w.heap[g3]? = some (.cells #[.slice AU u.length cu] 24 (0, 0))) (hu : Kd.C (Kd.int .u32) w AU u.length u) (huc : u.length ≤ cu) :
    Calls Try.prog 74 #[.slice A l.length c, .func (.func 94) #[] #[.pointer (some ⟨g1, 0, none⟩), .pointer (some ⟨g2, 0, none⟩), .pointer (some ⟨g3, 0, none⟩)]] w fun e w' => e = .returned (.bool (l.any (isN p s u))) ∧ Below w.heap.size w w' := by
  have HIX := Aside0.mk (indexNode_calls p s u AU cu g1 g2 g3 A c l w hC h1 h2 h3 hu huc)
  have HAN := Aside0.mk (idxP_any (isN p s u) l)
  clear hC h1 h2 h3 hu huc
  go_enter Try.func74, Try.ntmps74
  go_wp2_with (go_at_call 93; refine HIX.out.mono ?_; rintro e w1 ⟨rfl, hb⟩; have HB := Aside0.mk hb; clear hb)
  go_ret
  exact ⟨by rw [← HAN.out]; rfl, HB.out⟩
end Go.Proofs.Ytfpkakedlapmkaa.Q
end
section
set_option linter.unusedSimpArgs false
set_option linter.unusedVariables false
namespace Go.Proofs.Ytfpkakedlapmkaa.Q
open Go.RowKit Go.Proofs.YtfpkakedlapmkaaW.PrintWords Go.Proofs.YtfpkakedlapmkaaW.PrintLast Go.Proofs.YtfpkakedlapmkaaW.PrintMore
attribute [local go_sem] max2_int min2_int max_two min_two max_three min_three max_four min_four
def rootOk (x : S91) : Bool := (x.f0.toList == ([] : List UInt8)) && (((x.f1.length : Int) == 0) && (x.f2 == -1))
def kidOk (T : List S91) (i : Int) (x : S91) : Bool := namedF x.f0 && (!decide (4 < (x.f1.length : Int)) && (!decide (x.f2 < 0) && (!decide (i ≤ x.f2) && !T.any (isN x.f2 x.f0 x.f1))))
def nodeOk (t : List S91) (i : Nat) : Bool := (!decide (16 < ((t.getD i z91).f4.length : Int)) && propsF (t.getD i z91).f3) && (if (i : Int) == 0 then rootOk (t.getD i z91) else kidOk (t.take i) i (t.getD i z91))
def treeF (t : List S91) : Bool := !((t.length : Int) == 0) && (!decide (32 < (t.length : Int)) && (List.range t.length).all (nodeOk t))
theorem info91s : (Try.prog.info? 91).map (·.size) = some 5 := by kernel_rfl
theorem box_new5 (wr : World) (a b c d e : Value) (t : Nat) : (wr.alloc (.cells #[a, b, c, d, e] t)).heap[wr.heap.size]? = some (.cells #[a, b, c, d, e] t (0, 0)) := heap_alloc_new wr _
theorem held3_start {g : Nat} {a b c d e : Value} {t : Nat} {w W : World} (hh : W.heap[g]? = some (.cells #[a, b, c, d, e] t (0, 0))) (hb : Below w.heap.size w W) : ((W.drew.cell? ⟨g, 0, none⟩ = some a ∧ W.drew.cell? ⟨g, 1, none⟩ = some b ∧ W.drew.cell? ⟨g, 2, none⟩ = some c) ∧ Below w.heap.size w W.drew) :=
  ⟨⟨blk_cell hh 0, blk_cell hh 1, blk_cell hh 2⟩, below_drew1 hb⟩
theorem held3_step {g : Nat} {a b c : Value} {w W w2 : World} (h : (W.cell? ⟨g, 0, none⟩ = some a ∧ W.cell? ⟨g, 1, none⟩ = some b ∧ W.cell? ⟨g, 2, none⟩ = some c) ∧ Below w.heap.size w W) (hb : Below W.heap.size W w2) : (w2.cell? ⟨g, 0, none⟩ = some a ∧ w2.cell? ⟨g, 1, none⟩ = some b ∧ w2.cell? ⟨g, 2, none⟩ = some c) ∧ Below w.heap.size w w2 :=
  ⟨⟨(hb.cell (World.block_lt_of_cell? _ _ h.1.1)).trans h.1.1, (hb.cell (World.block_lt_of_cell? _ _ h.1.2.1)).trans h.1.2.1, (hb.cell (World.block_lt_of_cell? _ _ h.1.2.2)).trans h.1.2.2⟩, below_step h.2 hb⟩
set_option maxHeartbeats 16000000 in
set_option maxRecDepth 100000 in
theorem treeFormed_calls (A : Option Addr) (c : Nat) (l : List S91) (w : World) (hC : Kd.C k91 w A l.length l) (hc : l.length ≤ c) :
    Calls Try.prog 44 #[.slice A l.length c] w fun e w' => e = .returned (.bool (treeF l)) ∧ Below w.heap.size w w' := by
  have hu91 := Try.underlying91
  have hm := Kd.C_max hC
  cases h0 : ((l.length : Int) == 0)
  · cases h32 : decide (32 < (l.length : Int))
    · have HPF := Aside0.mk (show treeF l = (List.range l.length).all (nodeOk l) by unfold treeF; rw [h0, h32]; rfl)
      have HC := Aside0.mk hC
      have HCC := Aside0.mk hc
      have H32 := Aside0.mk (of_decide_eq_false h32)
      have HNM := Aside0.mk (fun (s : ByteArray) (W : World) => prop_Named.calls 400 s (namedF s) W (named_eq 400 (by decide) s))
      have HPR := Aside0.mk (fun (A : Option Addr) (c : Nat) (l : List S106) (W : World) (hC : Kd.C k106 W A l.length l) (hc : l.length ≤ c) => propsFormed_calls A c l W hC hc)
      have HB0 := Aside0.mk (Below.refl w.heap.size w)
      have mixed : Try.prog.follows Departure.mixedOrders = true := by kernel_rfl
      clear hC hc hm
      go_enter Try.func44, Try.ntmps44
      go_wp2
      go_loopg [15] l.length (fun kq v8 w' => ∃ i : Int, v8 = .int .i64 i ∧ Aside0 (0 ≤ i ∧ i + kq = l.length) ∧ Aside0 (∀ j : Nat, j < i.toNat → nodeOk l j = true) ∧ Aside0 (Below w.heap.size w w'))
      case atStart => exact ⟨0, rfl, ⟨by omega, by omega⟩, ⟨fun j hj => absurd hj (by simp)⟩, ⟨Below.refl _ _⟩⟩
      case round =>
        obtain ⟨i, rfl, HI, HZ, HB⟩ := hrel
        cases gk with
        | zero =>
          have hlt : decide (i < (l.length : Int)) = false := decide_eq_false (by have := HI.out; omega)
          go_wp2
          go_ret
          have hz := HZ.out
          have hi := HI.out
          exact ⟨by rw [HPF.out, range_all _ _ (fun j hj => hz j (by omega))]; rfl, HB.out⟩
        | succ k1 =>
          have hi := HI.out
          have hlt : decide (i < (l.length : Int)) = true := decide_eq_true (by omega)
          have p1 : (0 ≤ i) = True := eq_true (by omega)
          have p2 : (i < (l.length : Int)) = True := eq_true (by omega)
          obtain ⟨ad, A1, c1, A3, c3, A4, c4, eA, hx0, hx1, hx2, hx3, hx4, hl1, hg1, hl3, hg3, hl4, hg4⟩ := at_T91 (Kd.C_below HC.out HB.out) i (by omega) (by omega)
          cases eA
          have hwr : IntKind.i64.wrap (i + 1) = i + 1 := (i64_w _).trans (by unfold wrap64; have := H32.out; omega)
          have hwr2 : wrap64 (i + 1) = i + 1 := by unfold wrap64; have := H32.out; omega
          have hcut := run_cut_hi (P := Try.prog) Try.underlying29 info91s (some ad) l.length c i (by omega) (by have := HCC.out; omega)
          have HTK := Aside0.mk (fun (W : World) (hb : Below w.heap.size w W) => (Kd.C_take (Kd.C_below HC.out hb) (by omega) : Kd.C k91 W (some ad) (l.take i.toNat).length (l.take i.toNat)))
          have HTL := Aside0.mk (show (l.take i.toNat).length = i.toNat by rw [List.length_take]; omega)
          have HPO := Aside0.mk (show nodeOk l i.toNat = ((!decide (16 < ((rd_T91 l i).f4.length : Int)) && propsF (rd_T91 l i).f3) && (if i == 0 then rootOk (rd_T91 l i) else kidOk (l.take i.toNat) i (rd_T91 l i))) by
            have e : ((i.toNat : Nat) : Int) = i := by omega
            unfold nodeOk
            rw [e]
            rfl)
          have HG1 := Aside0.mk hg1
          have HL1 := Aside0.mk hl1
          have HPX := Aside0.mk (fun (W : World) (hb : Below wr.heap.size wr W) => HPR.out A3 c3 (rd_T91 l i).f3 W (Kd.C_below hg3 hb) hl3)
          generalize rd_T91 l i = x at *
          rw [← HTL.out] at hcut
          have HHI := Aside0.mk hi
          have HCN := Aside0.mk (fun (g1 g2 g3 : Nat) (W : World) (hb : Below w.heap.size w W) (hbr : Below wr.heap.size wr W) (h1 : W.heap[g1]? = some (.cells #[.int .i64 x.f2] 3 (0, 0))) (h2 : W.heap[g2]? = some (.cells #[.string x.f0] 9 (0, 0))) (h3 : W.heap[g3]? = some (.cells #[.slice A1 x.f1.length c1] 24 (0, 0))) => containsNode_calls x.f2 x.f0 x.f1 A1 c1 g1 g2 g3 (some ad) c (l.take i.toNat) W (HTK.out W hb) h1 h2 h3 (Kd.C_below HG1.out hbr) HL1.out)
          have HNA := Aside0.mk (fun W : World => HNM.out x.f0 W)
          have HBXN := Aside0.mk (box_new5 wr (.string x.f0) (.slice A1 x.f1.length c1) (.int .i64 x.f2) (.slice A3 x.f3.length c3) (.slice A4 x.f4.length c4) 91)
          have HBW := Aside0.mk (below_alloc (Below.refl wr.heap.size wr) (.cells #[.string x.f0, .slice A1 x.f1.length c1, .int .i64 x.f2, .slice A3 x.f3.length c3, .slice A4 x.f4.length c4] 91 (0, 0)))
          generalize l.take i.toNat = LT at *
          clear hi hl1 hg1 hl3 hg3 hl4 hg4
          cases e0 : decide (16 < (x.f4.length : Int))
          · cases b1 : propsF x.f3
            · rw [e0, b1] at HPO
              rw [b1] at HPX
              go_wp2_with (first
                | (go_at_call 72; (with_reducible refine (HPX.out _ HBW.out).mono ?_); rintro e w2 ⟨rfl, hb⟩; have HBX := Aside0.mk ((hb.block wr.heap.size (blk_lt HBXN.out)).trans HBXN.out); have HB2 := Aside0.mk (below_step HBW.out hb); have hz0 := (blk_cell HBX.out 0).trans rfl; have hz1 := (blk_cell HBX.out 1).trans rfl; have hz2 := (blk_cell HBX.out 2).trans rfl; clear hb))
              go_ret
              have hi := HHI.out
              exact ⟨by rw [HPF.out, range_not _ _ i.toNat (by omega) (by rw [HPO.out]; rfl)]; rfl, below_step HB.out HB2.out⟩
            · rw [b1] at HPX
              cases e1 : (i == 0)
              · rw [e0, b1, e1] at HPO
                have HKO := Aside0.mk (show kidOk LT i x = (namedF x.f0 && (!decide (4 < (x.f1.length : Int)) && (!decide (x.f2 < 0) && (!decide (i ≤ x.f2) && !LT.any (isN x.f2 x.f0 x.f1))))) from rfl)
                clear b1
                cases b2 : namedF x.f0
                · rw [b2] at HKO HNA
                  clear b2
                  go_wp2_with (first
                    | (go_at_call 72; (with_reducible refine (HPX.out _ HBW.out).mono ?_); rintro e w2 ⟨rfl, hb⟩; have HBX := Aside0.mk ((hb.block wr.heap.size (blk_lt HBXN.out)).trans HBXN.out); have HB2 := Aside0.mk (below_step HBW.out hb); have hz0 := (blk_cell HBX.out 0).trans rfl; have hz1 := (blk_cell HBX.out 1).trans rfl; have hz2 := (blk_cell HBX.out 2).trans rfl; clear hb)
                    | (go_at_call 73; (with_reducible refine (HNA.out _).mono ?_); rintro e w3 ⟨rfl, hb⟩; clear hz0 hz1 hz2; have HBX3 := Aside0.mk ((hb.block wr.heap.size (blk_lt HBX.out)).trans HBX.out); have HB3 := Aside0.mk (below_step HB2.out hb); have hz0 := (blk_cell HBX3.out 0).trans rfl; have hz1 := (blk_cell HBX3.out 1).trans rfl; have hz2 := (blk_cell HBX3.out 2).trans rfl; clear hb))
                  go_ret
                  have hi := HHI.out
                  exact ⟨by rw [HPF.out, range_not _ _ i.toNat (by omega) (by rw [HPO.out, HKO.out]; rfl)]; rfl, below_step HB.out HB3.out⟩
                · rw [b2] at HKO HNA
                  clear b2
                  cases e4 : decide (4 < (x.f1.length : Int))
                  · rw [e4] at HKO
                    cases e5 : decide (x.f2 < 0)
                    · rw [e5] at HKO
                      cases e6 : decide (i ≤ x.f2)
                      · rw [e6] at HKO
                        cases b3 : LT.any (isN x.f2 x.f0 x.f1)
                        · rw [b3] at HKO HCN
                          clear b3
                          go_wp2_with (first
                            | (go_at_call 72; (with_reducible refine (HPX.out _ HBW.out).mono ?_); rintro e w2 ⟨rfl, hb⟩; have HBX := Aside0.mk ((hb.block wr.heap.size (blk_lt HBXN.out)).trans HBXN.out); have HB2 := Aside0.mk (below_step HBW.out hb); have hz0 := (blk_cell HBX.out 0).trans rfl; have hz1 := (blk_cell HBX.out 1).trans rfl; have hz2 := (blk_cell HBX.out 2).trans rfl; clear hb)
                            | (go_at_call 73; (with_reducible refine (HNA.out _).mono ?_); rintro e w3 ⟨rfl, hb⟩; clear hz0 hz1 hz2; have HBX3 := Aside0.mk ((hb.block wr.heap.size (blk_lt HBX.out)).trans HBX.out); have HB3 := Aside0.mk (below_step HB2.out hb); have hz0 := (blk_cell HBX3.out 0).trans rfl; have hz1 := (blk_cell HBX3.out 1).trans rfl; have hz2 := (blk_cell HBX3.out 2).trans rfl; clear hb))
                          refine start_ (n := 12) (S := fun w' => (w'.cell? ⟨wr.heap.size, 0, none⟩ = some (.string x.f0) ∧ w'.cell? ⟨wr.heap.size, 1, none⟩ = some (.slice A1 x.f1.length c1) ∧ w'.cell? ⟨wr.heap.size, 2, none⟩ = some (.int .i64 x.f2)) ∧ Below wr.heap.size wr w') (ds := []) #[false, false, false, false, false, false, false, false, false, false, false, false] (by kernel_rfl) rfl rfl (held3_start HBX3.out HB3.out) (fun hHeld => ?_)
                          refine pure_ (i := 0) (N := some 71) (v := ?_) (a' := ?_) #[true, false, false, false, false, false, false, false, false, false, false, false] rfl rfl (by kernel_rfl) (fun _ _ _ h => h) (Or.inl ⟨by rfl, ?_⟩) ?_ ?_
                          rotate_left
                          · intro w'
                            go_simp
                            with_reducible rfl
                          rotate_left
                          · simp only [Act.put, List.setIfInBounds_toArray, List.set_cons_zero, List.set_cons_succ]
                            rfl
                          refine pure_ (i := 1) (N := some 72) (v := ?_) (a' := ?_) #[true, true, false, false, false, false, false, false, false, false, false, false] rfl rfl (by kernel_rfl) (fun _ _ _ h => h) (Or.inl ⟨by rfl, ?_⟩) ?_ ?_
                          rotate_left
                          · intro w'
                            go_simp
                            with_reducible rfl
                          rotate_left
                          · simp only [Act.put, List.setIfInBounds_toArray, List.set_cons_zero, List.set_cons_succ]
                            rfl
                          refine pure_ (i := 2) (N := some 73) (v := ?_) (a' := ?_) #[true, true, true, false, false, false, false, false, false, false, false, false] rfl rfl (by kernel_rfl) (fun _ _ _ h => h) (Or.inl ⟨by rfl, ?_⟩) ?_ ?_
                          rotate_left
                          · intro w'
                            go_simp
                            with_reducible rfl
                          rotate_left
                          · simp only [Act.put, List.setIfInBounds_toArray, List.set_cons_zero, List.set_cons_succ]
                            rfl
                          refine pure_ (i := 3) (N := some 74) (v := ?_) (a' := ?_) #[true, true, true, true, false, false, false, false, false, false, false, false] rfl rfl (by kernel_rfl) (fun _ _ _ h => h) (Or.inl ⟨by rfl, ?_⟩) ?_ ?_
                          rotate_left
                          · intro w'
                            go_simp
                            with_reducible rfl
                          rotate_left
                          · simp only [Act.put, List.setIfInBounds_toArray, List.set_cons_zero, List.set_cons_succ]
                            rfl
                          refine take_ (i := 4) (N := some 75) (v := (.int .i64 x.f2)) (a' := ?_) #[true, true, true, true, true, false, false, false, false, false, false, false] rfl rfl (by kernel_rfl) (fun _ _ _ h => h) (Or.inl ⟨by rfl, ?_⟩) hHeld ?_ ?_
                          rotate_left
                          rotate_left
                          · simp only [Act.put, List.setIfInBounds_toArray, List.set_cons_zero, List.set_cons_succ]
                            rfl
                          rotate_left
                          · rintro w' ⟨⟨s0, s1, s2⟩, s3⟩
                            go_simp
                          refine pure_ (i := 5) (N := some 76) (v := ?_) (a' := ?_) #[true, true, true, true, true, true, false, false, false, false, false, false] rfl rfl (by kernel_rfl) (fun _ _ _ h => h) (Or.inl ⟨by rfl, ?_⟩) ?_ ?_
                          rotate_left
                          · intro w'
                            go_simp
                            with_reducible rfl
                          rotate_left
                          · simp only [Act.put, List.setIfInBounds_toArray, List.set_cons_zero, List.set_cons_succ]
                            rfl
                          refine take_ (i := 6) (N := some 77) (v := (.string x.f0)) (a' := ?_) #[true, true, true, true, true, true, true, false, false, false, false, false] rfl rfl (by kernel_rfl) (fun _ _ _ h => h) (Or.inl ⟨by rfl, ?_⟩) hHeld ?_ ?_
                          rotate_left
                          rotate_left
                          · simp only [Act.put, List.setIfInBounds_toArray, List.set_cons_zero, List.set_cons_succ]
                            rfl
                          rotate_left
                          · rintro w' ⟨⟨s0, s1, s2⟩, s3⟩
                            go_simp
                          refine pure_ (i := 7) (N := some 78) (v := ?_) (a' := ?_) #[true, true, true, true, true, true, true, true, false, false, false, false] rfl rfl (by kernel_rfl) (fun _ _ _ h => h) (Or.inl ⟨by rfl, ?_⟩) ?_ ?_
                          rotate_left
                          · intro w'
                            go_simp
                            with_reducible rfl
                          rotate_left
                          · simp only [Act.put, List.setIfInBounds_toArray, List.set_cons_zero, List.set_cons_succ]
                            rfl
                          refine take_ (i := 8) (N := some 79) (v := (.slice A1 x.f1.length c1)) (a' := ?_) #[true, true, true, true, true, true, true, true, true, false, false, false] rfl rfl (by kernel_rfl) (fun _ _ _ h => h) (Or.inl ⟨by rfl, ?_⟩) hHeld ?_ ?_
                          rotate_left
                          rotate_left
                          · simp only [Act.put, List.setIfInBounds_toArray, List.set_cons_zero, List.set_cons_succ]
                            rfl
                          rotate_left
                          · rintro w' ⟨⟨s0, s1, s2⟩, s3⟩
                            go_simp
                          refine one_ (i := 9) (N := some 80) #[true, true, true, true, true, true, true, true, true, true, false, false] rfl rfl (by kernel_rfl) (by decide) (fun K hK => ?_)
                          refine goes_ Try.func75 (by kernel_rfl) rfl #[.int .i64 x.f2, .string x.f0, .slice A1 x.f1.length c1] (by rfl) rfl rfl (by first | rfl | (simp only [List.map_toArray, List.map_cons, List.map_nil]; rfl)) ?_
                          refine (is_calls x.f2 x.f0 A1 x.f1.length c1 _).mono ?_
                          rintro e w4 ⟨g1, g2, g3, rfl, hgs, h1, h2, h3, hb⟩
                          have H1 := Aside0.mk h1
                          have H2 := Aside0.mk h2
                          have H3 := Aside0.mk h3
                          refine ⟨_, rfl, hK.out _ _ (held3_step hHeld hb) (fun hHeld => ?_)⟩
                          clear hgs h1 h2 h3 hb
                          clear hK K
                          simp only [Act.put, List.setIfInBounds_toArray, List.set_cons_zero, List.set_cons_succ]
                          refine one_ (i := 10) (N := some 81) #[true, true, true, true, true, true, true, true, true, true, true, false] rfl rfl (by kernel_rfl) (by decide) (fun K hK => ?_)
                          refine goes_ Try.func74 (by kernel_rfl) rfl #[.slice (some ad) LT.length c, .func (.func 94) #[] #[.pointer (some ⟨g1, 0, none⟩), .pointer (some ⟨g2, 0, none⟩), .pointer (some ⟨g3, 0, none⟩)]] (by rfl) rfl rfl (by first | rfl | (simp only [List.map_toArray, List.map_cons, List.map_nil]; rfl)) ?_
                          refine (HCN.out g1 g2 g3 _ (below_step HB.out hHeld.2) hHeld.2 H1.out H2.out H3.out).mono ?_
                          rintro e w5 ⟨rfl, hb⟩
                          refine ⟨_, rfl, hK.out _ _ (held3_step hHeld hb) (fun hHeld => ?_)⟩
                          clear hb
                          clear hK K
                          simp only [Act.put, List.setIfInBounds_toArray, List.set_cons_zero, List.set_cons_succ]
                          refine pure_ (i := 11) (N := some 70) (v := ?_) (a' := ?_) #[true, true, true, true, true, true, true, true, true, true, true, true] rfl rfl (by kernel_rfl) (fun _ _ _ h => h) (Or.inl ⟨by rfl, ?_⟩) ?_ ?_
                          rotate_left
                          · intro w'
                            go_simp
                            with_reducible rfl
                          rotate_left
                          · simp only [Act.put, List.setIfInBounds_toArray, List.set_cons_zero, List.set_cons_succ]
                            rfl
                          refine done_ (n := 0) (by kernel_rfl) ?_
                          go_wp2
                          go_roundg k1
                          case measure => omega
                          case rel =>
                            have hi := HHI.out
                            refine ⟨i + 1, rfl, ⟨by omega, by omega⟩, ⟨fun j hj => ?_⟩, ⟨below_step HB.out hHeld.2⟩⟩
                            by_cases hji : j = i.toNat
                            · subst hji
                              rw [HPO.out, HKO.out]
                              rfl
                            · exact HZ.out j (by omega)
                        · rw [b3] at HKO HCN
                          clear b3
                          go_wp2_with (first
                            | (go_at_call 72; (with_reducible refine (HPX.out _ HBW.out).mono ?_); rintro e w2 ⟨rfl, hb⟩; have HBX := Aside0.mk ((hb.block wr.heap.size (blk_lt HBXN.out)).trans HBXN.out); have HB2 := Aside0.mk (below_step HBW.out hb); have hz0 := (blk_cell HBX.out 0).trans rfl; have hz1 := (blk_cell HBX.out 1).trans rfl; have hz2 := (blk_cell HBX.out 2).trans rfl; clear hb)
                            | (go_at_call 73; (with_reducible refine (HNA.out _).mono ?_); rintro e w3 ⟨rfl, hb⟩; clear hz0 hz1 hz2; have HBX3 := Aside0.mk ((hb.block wr.heap.size (blk_lt HBX.out)).trans HBX.out); have HB3 := Aside0.mk (below_step HB2.out hb); have hz0 := (blk_cell HBX3.out 0).trans rfl; have hz1 := (blk_cell HBX3.out 1).trans rfl; have hz2 := (blk_cell HBX3.out 2).trans rfl; clear hb))
                          refine start_ (n := 12) (S := fun w' => (w'.cell? ⟨wr.heap.size, 0, none⟩ = some (.string x.f0) ∧ w'.cell? ⟨wr.heap.size, 1, none⟩ = some (.slice A1 x.f1.length c1) ∧ w'.cell? ⟨wr.heap.size, 2, none⟩ = some (.int .i64 x.f2)) ∧ Below wr.heap.size wr w') (ds := []) #[false, false, false, false, false, false, false, false, false, false, false, false] (by kernel_rfl) rfl rfl (held3_start HBX3.out HB3.out) (fun hHeld => ?_)
                          refine pure_ (i := 0) (N := some 71) (v := ?_) (a' := ?_) #[true, false, false, false, false, false, false, false, false, false, false, false] rfl rfl (by kernel_rfl) (fun _ _ _ h => h) (Or.inl ⟨by rfl, ?_⟩) ?_ ?_
                          rotate_left
                          · intro w'
                            go_simp
                            with_reducible rfl
                          rotate_left
                          · simp only [Act.put, List.setIfInBounds_toArray, List.set_cons_zero, List.set_cons_succ]
                            rfl
                          refine pure_ (i := 1) (N := some 72) (v := ?_) (a' := ?_) #[true, true, false, false, false, false, false, false, false, false, false, false] rfl rfl (by kernel_rfl) (fun _ _ _ h => h) (Or.inl ⟨by rfl, ?_⟩) ?_ ?_
                          rotate_left
                          · intro w'
                            go_simp
                            with_reducible rfl
                          rotate_left
                          · simp only [Act.put, List.setIfInBounds_toArray, List.set_cons_zero, List.set_cons_succ]
                            rfl
                          refine pure_ (i := 2) (N := some 73) (v := ?_) (a' := ?_) #[true, true, true, false, false, false, false, false, false, false, false, false] rfl rfl (by kernel_rfl) (fun _ _ _ h => h) (Or.inl ⟨by rfl, ?_⟩) ?_ ?_
                          rotate_left
                          · intro w'
                            go_simp
                            with_reducible rfl
                          rotate_left
                          · simp only [Act.put, List.setIfInBounds_toArray, List.set_cons_zero, List.set_cons_succ]
                            rfl
                          refine pure_ (i := 3) (N := some 74) (v := ?_) (a' := ?_) #[true, true, true, true, false, false, false, false, false, false, false, false] rfl rfl (by kernel_rfl) (fun _ _ _ h => h) (Or.inl ⟨by rfl, ?_⟩) ?_ ?_
                          rotate_left
                          · intro w'
                            go_simp
                            with_reducible rfl
                          rotate_left
                          · simp only [Act.put, List.setIfInBounds_toArray, List.set_cons_zero, List.set_cons_succ]
                            rfl
                          refine take_ (i := 4) (N := some 75) (v := (.int .i64 x.f2)) (a' := ?_) #[true, true, true, true, true, false, false, false, false, false, false, false] rfl rfl (by kernel_rfl) (fun _ _ _ h => h) (Or.inl ⟨by rfl, ?_⟩) hHeld ?_ ?_
                          rotate_left
                          rotate_left
                          · simp only [Act.put, List.setIfInBounds_toArray, List.set_cons_zero, List.set_cons_succ]
                            rfl
                          rotate_left
                          · rintro w' ⟨⟨s0, s1, s2⟩, s3⟩
                            go_simp
                          refine pure_ (i := 5) (N := some 76) (v := ?_) (a' := ?_) #[true, true, true, true, true, true, false, false, false, false, false, false] rfl rfl (by kernel_rfl) (fun _ _ _ h => h) (Or.inl ⟨by rfl, ?_⟩) ?_ ?_
                          rotate_left
                          · intro w'
                            go_simp
                            with_reducible rfl
                          rotate_left
                          · simp only [Act.put, List.setIfInBounds_toArray, List.set_cons_zero, List.set_cons_succ]
                            rfl
                          refine take_ (i := 6) (N := some 77) (v := (.string x.f0)) (a' := ?_) #[true, true, true, true, true, true, true, false, false, false, false, false] rfl rfl (by kernel_rfl) (fun _ _ _ h => h) (Or.inl ⟨by rfl, ?_⟩) hHeld ?_ ?_
                          rotate_left
                          rotate_left
                          · simp only [Act.put, List.setIfInBounds_toArray, List.set_cons_zero, List.set_cons_succ]
                            rfl
                          rotate_left
                          · rintro w' ⟨⟨s0, s1, s2⟩, s3⟩
                            go_simp
                          refine pure_ (i := 7) (N := some 78) (v := ?_) (a' := ?_) #[true, true, true, true, true, true, true, true, false, false, false, false] rfl rfl (by kernel_rfl) (fun _ _ _ h => h) (Or.inl ⟨by rfl, ?_⟩) ?_ ?_
                          rotate_left
                          · intro w'
                            go_simp
                            with_reducible rfl
                          rotate_left
                          · simp only [Act.put, List.setIfInBounds_toArray, List.set_cons_zero, List.set_cons_succ]
                            rfl
                          refine take_ (i := 8) (N := some 79) (v := (.slice A1 x.f1.length c1)) (a' := ?_) #[true, true, true, true, true, true, true, true, true, false, false, false] rfl rfl (by kernel_rfl) (fun _ _ _ h => h) (Or.inl ⟨by rfl, ?_⟩) hHeld ?_ ?_
                          rotate_left
                          rotate_left
                          · simp only [Act.put, List.setIfInBounds_toArray, List.set_cons_zero, List.set_cons_succ]
                            rfl
                          rotate_left
                          · rintro w' ⟨⟨s0, s1, s2⟩, s3⟩
                            go_simp
                          refine one_ (i := 9) (N := some 80) #[true, true, true, true, true, true, true, true, true, true, false, false] rfl rfl (by kernel_rfl) (by decide) (fun K hK => ?_)
                          refine goes_ Try.func75 (by kernel_rfl) rfl #[.int .i64 x.f2, .string x.f0, .slice A1 x.f1.length c1] (by rfl) rfl rfl (by first | rfl | (simp only [List.map_toArray, List.map_cons, List.map_nil]; rfl)) ?_
                          refine (is_calls x.f2 x.f0 A1 x.f1.length c1 _).mono ?_
                          rintro e w4 ⟨g1, g2, g3, rfl, hgs, h1, h2, h3, hb⟩
                          have H1 := Aside0.mk h1
                          have H2 := Aside0.mk h2
                          have H3 := Aside0.mk h3
                          refine ⟨_, rfl, hK.out _ _ (held3_step hHeld hb) (fun hHeld => ?_)⟩
                          clear hgs h1 h2 h3 hb
                          clear hK K
                          simp only [Act.put, List.setIfInBounds_toArray, List.set_cons_zero, List.set_cons_succ]
                          refine one_ (i := 10) (N := some 81) #[true, true, true, true, true, true, true, true, true, true, true, false] rfl rfl (by kernel_rfl) (by decide) (fun K hK => ?_)
                          refine goes_ Try.func74 (by kernel_rfl) rfl #[.slice (some ad) LT.length c, .func (.func 94) #[] #[.pointer (some ⟨g1, 0, none⟩), .pointer (some ⟨g2, 0, none⟩), .pointer (some ⟨g3, 0, none⟩)]] (by rfl) rfl rfl (by first | rfl | (simp only [List.map_toArray, List.map_cons, List.map_nil]; rfl)) ?_
                          refine (HCN.out g1 g2 g3 _ (below_step HB.out hHeld.2) hHeld.2 H1.out H2.out H3.out).mono ?_
                          rintro e w5 ⟨rfl, hb⟩
                          refine ⟨_, rfl, hK.out _ _ (held3_step hHeld hb) (fun hHeld => ?_)⟩
                          clear hb
                          clear hK K
                          simp only [Act.put, List.setIfInBounds_toArray, List.set_cons_zero, List.set_cons_succ]
                          refine pure_ (i := 11) (N := some 70) (v := ?_) (a' := ?_) #[true, true, true, true, true, true, true, true, true, true, true, true] rfl rfl (by kernel_rfl) (fun _ _ _ h => h) (Or.inl ⟨by rfl, ?_⟩) ?_ ?_
                          rotate_left
                          · intro w'
                            go_simp
                            with_reducible rfl
                          rotate_left
                          · simp only [Act.put, List.setIfInBounds_toArray, List.set_cons_zero, List.set_cons_succ]
                            rfl
                          refine done_ (n := 0) (by kernel_rfl) ?_
                          go_wp2
                          go_ret
                          have hi := HHI.out
                          exact ⟨by rw [HPF.out, range_not _ _ i.toNat (by omega) (by rw [HPO.out, HKO.out]; rfl)]; rfl, below_step HB.out hHeld.2⟩
                      · rw [e6] at HKO
                        go_wp2_with (first
                          | (go_at_call 72; (with_reducible refine (HPX.out _ HBW.out).mono ?_); rintro e w2 ⟨rfl, hb⟩; have HBX := Aside0.mk ((hb.block wr.heap.size (blk_lt HBXN.out)).trans HBXN.out); have HB2 := Aside0.mk (below_step HBW.out hb); have hz0 := (blk_cell HBX.out 0).trans rfl; have hz1 := (blk_cell HBX.out 1).trans rfl; have hz2 := (blk_cell HBX.out 2).trans rfl; clear hb)
                          | (go_at_call 73; (with_reducible refine (HNA.out _).mono ?_); rintro e w3 ⟨rfl, hb⟩; clear hz0 hz1 hz2; have HBX3 := Aside0.mk ((hb.block wr.heap.size (blk_lt HBX.out)).trans HBX.out); have HB3 := Aside0.mk (below_step HB2.out hb); have hz0 := (blk_cell HBX3.out 0).trans rfl; have hz1 := (blk_cell HBX3.out 1).trans rfl; have hz2 := (blk_cell HBX3.out 2).trans rfl; clear hb))
                        go_ret
                        have hi := HHI.out
                        exact ⟨by rw [HPF.out, range_not _ _ i.toNat (by omega) (by rw [HPO.out, HKO.out]; rfl)]; rfl, below_step HB.out HB3.out⟩
                    · rw [e5] at HKO
                      go_wp2_with (first
                        | (go_at_call 72; (with_reducible refine (HPX.out _ HBW.out).mono ?_); rintro e w2 ⟨rfl, hb⟩; have HBX := Aside0.mk ((hb.block wr.heap.size (blk_lt HBXN.out)).trans HBXN.out); have HB2 := Aside0.mk (below_step HBW.out hb); have hz0 := (blk_cell HBX.out 0).trans rfl; have hz1 := (blk_cell HBX.out 1).trans rfl; have hz2 := (blk_cell HBX.out 2).trans rfl; clear hb)
                        | (go_at_call 73; (with_reducible refine (HNA.out _).mono ?_); rintro e w3 ⟨rfl, hb⟩; clear hz0 hz1 hz2; have HBX3 := Aside0.mk ((hb.block wr.heap.size (blk_lt HBX.out)).trans HBX.out); have HB3 := Aside0.mk (below_step HB2.out hb); have hz0 := (blk_cell HBX3.out 0).trans rfl; have hz1 := (blk_cell HBX3.out 1).trans rfl; have hz2 := (blk_cell HBX3.out 2).trans rfl; clear hb))
                      go_ret
                      have hi := HHI.out
                      exact ⟨by rw [HPF.out, range_not _ _ i.toNat (by omega) (by rw [HPO.out, HKO.out]; rfl)]; rfl, below_step HB.out HB3.out⟩
                  · rw [e4] at HKO
                    go_wp2_with (first
                      | (go_at_call 72; (with_reducible refine (HPX.out _ HBW.out).mono ?_); rintro e w2 ⟨rfl, hb⟩; have HBX := Aside0.mk ((hb.block wr.heap.size (blk_lt HBXN.out)).trans HBXN.out); have HB2 := Aside0.mk (below_step HBW.out hb); have hz0 := (blk_cell HBX.out 0).trans rfl; have hz1 := (blk_cell HBX.out 1).trans rfl; have hz2 := (blk_cell HBX.out 2).trans rfl; clear hb)
                      | (go_at_call 73; (with_reducible refine (HNA.out _).mono ?_); rintro e w3 ⟨rfl, hb⟩; clear hz0 hz1 hz2; have HBX3 := Aside0.mk ((hb.block wr.heap.size (blk_lt HBX.out)).trans HBX.out); have HB3 := Aside0.mk (below_step HB2.out hb); have hz0 := (blk_cell HBX3.out 0).trans rfl; have hz1 := (blk_cell HBX3.out 1).trans rfl; have hz2 := (blk_cell HBX3.out 2).trans rfl; clear hb))
                    go_ret
                    have hi := HHI.out
                    exact ⟨by rw [HPF.out, range_not _ _ i.toNat (by omega) (by rw [HPO.out, HKO.out]; rfl)]; rfl, below_step HB.out HB3.out⟩
              · rw [e0, b1, e1] at HPO
                have HRO := Aside0.mk (show rootOk x = ((x.f0.toList == ([] : List UInt8)) && (((x.f1.length : Int) == 0) && (x.f2 == -1))) from rfl)
                clear b1
                cases n0 : (x.f0.toList == ([] : List UInt8))
                · rw [n0] at HRO
                  have n0' : (x.f0.toList != ([] : List UInt8)) = true := by rw [bne, n0]; rfl
                  go_wp2_with (first
                    | (go_at_call 72; (with_reducible refine (HPX.out _ HBW.out).mono ?_); rintro e w2 ⟨rfl, hb⟩; have HBX := Aside0.mk ((hb.block wr.heap.size (blk_lt HBXN.out)).trans HBXN.out); have HB2 := Aside0.mk (below_step HBW.out hb); have hz0 := (blk_cell HBX.out 0).trans rfl; have hz1 := (blk_cell HBX.out 1).trans rfl; have hz2 := (blk_cell HBX.out 2).trans rfl; clear hb))
                  go_ret
                  have hi := HHI.out
                  exact ⟨by rw [HPF.out, range_not _ _ i.toNat (by omega) (by rw [HPO.out, HRO.out]; rfl)]; rfl, below_step HB.out HB2.out⟩
                · have n0' : (x.f0.toList != ([] : List UInt8)) = false := by rw [bne, n0]; rfl
                  cases u0 : ((x.f1.length : Int) == 0)
                  · rw [n0, u0] at HRO
                    have u0' : ((x.f1.length : Int) != 0) = true := by rw [bne, u0]; rfl
                    go_wp2_with (first
                      | (go_at_call 72; (with_reducible refine (HPX.out _ HBW.out).mono ?_); rintro e w2 ⟨rfl, hb⟩; have HBX := Aside0.mk ((hb.block wr.heap.size (blk_lt HBXN.out)).trans HBXN.out); have HB2 := Aside0.mk (below_step HBW.out hb); have hz0 := (blk_cell HBX.out 0).trans rfl; have hz1 := (blk_cell HBX.out 1).trans rfl; have hz2 := (blk_cell HBX.out 2).trans rfl; clear hb))
                    go_ret
                    have hi := HHI.out
                    exact ⟨by rw [HPF.out, range_not _ _ i.toNat (by omega) (by rw [HPO.out, HRO.out]; rfl)]; rfl, below_step HB.out HB2.out⟩
                  · have u0' : ((x.f1.length : Int) != 0) = false := by rw [bne, u0]; rfl
                    cases p0 : (x.f2 == -1)
                    · rw [n0, u0, p0] at HRO
                      have p0' : (x.f2 != -1) = true := by rw [bne, p0]; rfl
                      go_wp2_with (first
                        | (go_at_call 72; (with_reducible refine (HPX.out _ HBW.out).mono ?_); rintro e w2 ⟨rfl, hb⟩; have HBX := Aside0.mk ((hb.block wr.heap.size (blk_lt HBXN.out)).trans HBXN.out); have HB2 := Aside0.mk (below_step HBW.out hb); have hz0 := (blk_cell HBX.out 0).trans rfl; have hz1 := (blk_cell HBX.out 1).trans rfl; have hz2 := (blk_cell HBX.out 2).trans rfl; clear hb))
                      go_ret
                      have hi := HHI.out
                      exact ⟨by rw [HPF.out, range_not _ _ i.toNat (by omega) (by rw [HPO.out, HRO.out]; rfl)]; rfl, below_step HB.out HB2.out⟩
                    · rw [n0, u0, p0] at HRO
                      have p0' : (x.f2 != -1) = false := by rw [bne, p0]; rfl
                      go_wp2_with (first
                        | (go_at_call 72; (with_reducible refine (HPX.out _ HBW.out).mono ?_); rintro e w2 ⟨rfl, hb⟩; have HBX := Aside0.mk ((hb.block wr.heap.size (blk_lt HBXN.out)).trans HBXN.out); have HB2 := Aside0.mk (below_step HBW.out hb); have hz0 := (blk_cell HBX.out 0).trans rfl; have hz1 := (blk_cell HBX.out 1).trans rfl; have hz2 := (blk_cell HBX.out 2).trans rfl; clear hb))
                      go_roundg k1
                      case measure => omega
                      case rel =>
                        have hi := HHI.out
                        refine ⟨i + 1, rfl, ⟨by omega, by omega⟩, ⟨fun j hj => ?_⟩, ⟨below_step HB.out HB2.out⟩⟩
                        by_cases hji : j = i.toNat
                        · subst hji
                          rw [HPO.out, HRO.out]
                          rfl
                        · exact HZ.out j (by omega)
          · rw [e0] at HPO
            go_wp2
            go_ret
            have hi := HHI.out
            exact ⟨by rw [HPF.out, range_not _ _ i.toNat (by omega) (by rw [HPO.out]; rfl)]; rfl, below_step HB.out (by first | exact HBW.out | exact HB2.out)⟩
    · have HPF := Aside0.mk (show treeF l = false by unfold treeF; rw [h0, h32]; rfl)
      clear hC hc hm
      go_enter Try.func44, Try.ntmps44
      go_wp2
      go_ret
      exact ⟨by rw [HPF.out]; rfl, Below.refl _ _⟩
  · have HPF := Aside0.mk (show treeF l = false by unfold treeF; rw [h0]; rfl)
    clear hC hc hm
    go_enter Try.func44, Try.ntmps44
    go_wp2
    go_ret
    exact ⟨by rw [HPF.out]; rfl, Below.refl _ _⟩
end Go.Proofs.Ytfpkakedlapmkaa.Q
end
section
set_option linter.unusedSimpArgs false
set_option linter.unusedVariables false
namespace Go.Proofs.Ytfpkakedlapmkaa.Q
open Go.RowKit Go.Shelf Go.Proofs.YtfpkakedlapmkaaW.PrintWords Go.Proofs.YtfpkakedlapmkaaW.PrintLast
attribute [local go_sem] Oper.semAt_some
set_option maxRecDepth 100000 in
def primsL : List S37 := [(⟨(⟨#[105]⟩ : ByteArray), 25⟩ : S37), (⟨(⟨#[106]⟩ : ByteArray), 26⟩ : S37), (⟨(⟨#[101, 120, 101, 99, 117, 116, 101]⟩ : ByteArray), 29⟩ : S37), (⟨(⟨#[43]⟩ : ByteArray), 30⟩ : S37), (⟨(⟨#[45]⟩ : ByteArray), 31⟩ : S37), (⟨(⟨#[42]⟩ : ByteArray), 32⟩ : S37), (⟨(⟨#[47]⟩ : ByteArray), 33⟩ : S37), (⟨(⟨#[109, 111, 100]⟩ : ByteArray), 34⟩ : S37), (⟨(⟨#[97, 110, 100]⟩ : ByteArray), 35⟩ : S37), (⟨(⟨#[111, 114]⟩ : ByteArray), 36⟩ : S37), (⟨(⟨#[120, 111, 114]⟩ : ByteArray), 37⟩ : S37), (⟨(⟨#[105, 110, 118, 101, 114, 116]⟩ : ByteArray), 38⟩ : S37), (⟨(⟨#[108, 115, 104, 105, 102, 116]⟩ : ByteArray), 39⟩ : S37), (⟨(⟨#[114, 115, 104, 105, 102, 116]⟩ : ByteArray), 40⟩ : S37), (⟨(⟨#[62, 62, 97]⟩ : ByteArray), 41⟩ : S37), (⟨(⟨#[47, 109, 111, 100]⟩ : ByteArray), 42⟩ : S37), (⟨(⟨#[117, 47, 109, 111, 100]⟩ : ByteArray), 43⟩ : S37), (⟨(⟨#[110, 101, 103, 97, 116, 101]⟩ : ByteArray), 44⟩ : S37), (⟨(⟨#[97, 98, 115]⟩ : ByteArray), 45⟩ : S37), (⟨(⟨#[109, 105, 110]⟩ : ByteArray), 46⟩ : S37), (⟨(⟨#[109, 97, 120]⟩ : ByteArray), 47⟩ : S37), (⟨(⟨#[62, 114]⟩ : ByteArray), 48⟩ : S37), (⟨(⟨#[114, 62]⟩ : ByteArray), 49⟩ : S37), (⟨(⟨#[114, 64]⟩ : ByteArray), 50⟩ : S37), (⟨(⟨#[48, 61]⟩ : ByteArray), 52⟩ : S37), (⟨(⟨#[48, 60, 62]⟩ : ByteArray), 53⟩ : S37), (⟨(⟨#[48, 60]⟩ : ByteArray), 54⟩ : S37), (⟨(⟨#[48, 60, 61]⟩ : ByteArray), 55⟩ : S37), (⟨(⟨#[48, 62]⟩ : ByteArray), 56⟩ : S37), (⟨(⟨#[48, 62, 61]⟩ : ByteArray), 57⟩ : S37), (⟨(⟨#[60]⟩ : ByteArray), 58⟩ : S37), (⟨(⟨#[62]⟩ : ByteArray), 59⟩ : S37), (⟨(⟨#[61]⟩ : ByteArray), 60⟩ : S37), (⟨(⟨#[60, 62]⟩ : ByteArray), 61⟩ : S37), (⟨(⟨#[117, 62]⟩ : ByteArray), 62⟩ : S37), (⟨(⟨#[117, 60, 61]⟩ : ByteArray), 63⟩ : S37), (⟨(⟨#[117, 60]⟩ : ByteArray), 64⟩ : S37), (⟨(⟨#[117, 62, 61]⟩ : ByteArray), 65⟩ : S37), (⟨(⟨#[62, 61]⟩ : ByteArray), 66⟩ : S37), (⟨(⟨#[60, 61]⟩ : ByteArray), 67⟩ : S37), (⟨(⟨#[100, 114, 111, 112]⟩ : ByteArray), 70⟩ : S37), (⟨(⟨#[100, 117, 112]⟩ : ByteArray), 71⟩ : S37), (⟨(⟨#[111, 118, 101, 114]⟩ : ByteArray), 72⟩ : S37), (⟨(⟨#[115, 119, 97, 112]⟩ : ByteArray), 73⟩ : S37), (⟨(⟨#[114, 111, 116]⟩ : ByteArray), 74⟩ : S37), (⟨(⟨#[45, 114, 111, 116]⟩ : ByteArray), 75⟩ : S37), (⟨(⟨#[116, 117, 99, 107]⟩ : ByteArray), 76⟩ : S37), (⟨(⟨#[110, 105, 112]⟩ : ByteArray), 77⟩ : S37), (⟨(⟨#[112, 105, 99, 107]⟩ : ByteArray), 78⟩ : S37), (⟨(⟨#[114, 111, 108, 108]⟩ : ByteArray), 79⟩ : S37), (⟨(⟨#[63, 100, 117, 112]⟩ : ByteArray), 80⟩ : S37), (⟨(⟨#[100, 101, 112, 116, 104]⟩ : ByteArray), 81⟩ : S37), (⟨(⟨#[50, 100, 114, 111, 112]⟩ : ByteArray), 82⟩ : S37), (⟨(⟨#[50, 100, 117, 112]⟩ : ByteArray), 83⟩ : S37), (⟨(⟨#[50, 111, 118, 101, 114]⟩ : ByteArray), 84⟩ : S37), (⟨(⟨#[50, 115, 119, 97, 112]⟩ : ByteArray), 85⟩ : S37), (⟨(⟨#[50, 114, 111, 116]⟩ : ByteArray), 86⟩ : S37), (⟨(⟨#[50, 47]⟩ : ByteArray), 87⟩ : S37), (⟨(⟨#[117, 50, 47]⟩ : ByteArray), 88⟩ : S37), (⟨(⟨#[50, 42]⟩ : ByteArray), 89⟩ : S37), (⟨(⟨#[43, 33]⟩ : ByteArray), 108⟩ : S37), (⟨(⟨#[64]⟩ : ByteArray), 109⟩ : S37), (⟨(⟨#[119, 64]⟩ : ByteArray), 111⟩ : S37), (⟨(⟨#[99, 64]⟩ : ByteArray), 113⟩ : S37), (⟨(⟨#[33]⟩ : ByteArray), 114⟩ : S37), (⟨(⟨#[119, 33]⟩ : ByteArray), 116⟩ : S37), (⟨(⟨#[99, 33]⟩ : ByteArray), 117⟩ : S37), (⟨(⟨#[109, 111, 118, 101]⟩ : ByteArray), 120⟩ : S37), (⟨(⟨#[102, 105, 108, 108]⟩ : ByteArray), 121⟩ : S37), (⟨(⟨#[99, 111, 109, 112]⟩ : ByteArray), 122⟩ : S37), (⟨(⟨#[108, 98, 115, 112, 108, 105, 116]⟩ : ByteArray), 126⟩ : S37), (⟨(⟨#[98, 108, 106, 111, 105, 110]⟩ : ByteArray), 127⟩ : S37), (⟨(⟨#[119, 98, 102, 108, 105, 112]⟩ : ByteArray), 128⟩ : S37), (⟨(⟨#[117, 112, 99]⟩ : ByteArray), 129⟩ : S37), (⟨(⟨#[108, 99, 99]⟩ : ByteArray), 130⟩ : S37), (⟨(⟨#[117, 110, 108, 111, 111, 112]⟩ : ByteArray), 137⟩ : S37), (⟨(⟨#[97, 108, 108, 111, 99, 45, 109, 101, 109]⟩ : ByteArray), 139⟩ : S37), (⟨(⟨#[101, 109, 105, 116]⟩ : ByteArray), 143⟩ : S37), (⟨(⟨#[116, 121, 112, 101]⟩ : ByteArray), 144⟩ : S37), (⟨(⟨#[99, 114]⟩ : ByteArray), 146⟩ : S37), (⟨(⟨#[117, 46]⟩ : ByteArray), 155⟩ : S37), (⟨(⟨#[46]⟩ : ByteArray), 157⟩ : S37), (⟨(⟨#[98, 97, 115, 101, 33]⟩ : ByteArray), 160⟩ : S37), (⟨(⟨#[45, 49]⟩ : ByteArray), 164⟩ : S37), (⟨(⟨#[48]⟩ : ByteArray), 165⟩ : S37), (⟨(⟨#[49]⟩ : ByteArray), 166⟩ : S37), (⟨(⟨#[50]⟩ : ByteArray), 167⟩ : S37), (⟨(⟨#[51]⟩ : ByteArray), 168⟩ : S37), (⟨(⟨#[98, 108]⟩ : ByteArray), 169⟩ : S37), (⟨(⟨#[104, 101, 114, 101]⟩ : ByteArray), 173⟩ : S37), (⟨(⟨#[117, 109, 42]⟩ : ByteArray), 212⟩ : S37), (⟨(⟨#[117, 109, 47, 109, 111, 100]⟩ : ByteArray), 213⟩ : S37), (⟨(⟨#[100, 43]⟩ : ByteArray), 216⟩ : S37), (⟨(⟨#[100, 45]⟩ : ByteArray), 217⟩ : S37), (⟨(⟨#[112, 114, 111, 112, 101, 114, 116, 121]⟩ : ByteArray), 272⟩ : S37), (⟨(⟨#[101, 110, 99, 111, 100, 101, 45, 105, 110, 116]⟩ : ByteArray), 273⟩ : S37), (⟨(⟨#[101, 110, 99, 111, 100, 101, 43]⟩ : ByteArray), 274⟩ : S37), (⟨(⟨#[101, 110, 99, 111, 100, 101, 45, 115, 116, 114, 105, 110, 103]⟩ : ByteArray), 276⟩ : S37), (⟨(⟨#[110, 101, 119, 45, 100, 101, 118, 105, 99, 101]⟩ : ByteArray), 287⟩ : S37), (⟨(⟨#[102, 105, 110, 105, 115, 104, 45, 100, 101, 118, 105, 99, 101]⟩ : ByteArray), 295⟩ : S37), (⟨(⟨#[115, 109, 47, 114, 101, 109]⟩ : ByteArray), 469⟩ : S37), (⟨(⟨#[109, 121, 45, 115, 101, 108, 102]⟩ : ByteArray), 515⟩ : S37), (⟨(⟨#[109, 121, 45, 112, 97, 114, 101, 110, 116]⟩ : ByteArray), 522⟩ : S37), (⟨(⟨#[36, 99, 97, 108, 108, 45, 109, 101, 116, 104, 111, 100]⟩ : ByteArray), 526⟩ : S37), (⟨(⟨#[99, 97, 116, 99, 104]⟩ : ByteArray), 535⟩ : S37), (⟨(⟨#[116, 104, 114, 111, 119]⟩ : ByteArray), 536⟩ : S37), (⟨(⟨#[103, 101, 116, 45, 109, 121, 45, 112, 114, 111, 112, 101, 114, 116, 121]⟩ : ByteArray), 538⟩ : S37), (⟨(⟨#[100, 101, 99, 111, 100, 101, 45, 105, 110, 116]⟩ : ByteArray), 539⟩ : S37), (⟨(⟨#[100, 101, 99, 111, 100, 101, 45, 115, 116, 114, 105, 110, 103]⟩ : ByteArray), 540⟩ : S37), (⟨(⟨#[100, 101, 108, 101, 116, 101, 45, 112, 114, 111, 112, 101, 114, 116, 121]⟩ : ByteArray), 542⟩ : S37), (⟨(⟨#[102, 109, 47, 109, 111, 100]⟩ : ByteArray), 725⟩ : S37)]
set_option maxRecDepth 100000 in
def primCells : List Value := [.string (⟨#[105]⟩ : ByteArray), .int .i64 25, .string (⟨#[106]⟩ : ByteArray), .int .i64 26, .string (⟨#[101, 120, 101, 99, 117, 116, 101]⟩ : ByteArray), .int .i64 29, .string (⟨#[43]⟩ : ByteArray), .int .i64 30, .string (⟨#[45]⟩ : ByteArray), .int .i64 31, .string (⟨#[42]⟩ : ByteArray), .int .i64 32, .string (⟨#[47]⟩ : ByteArray), .int .i64 33, .string (⟨#[109, 111, 100]⟩ : ByteArray), .int .i64 34, .string (⟨#[97, 110, 100]⟩ : ByteArray), .int .i64 35, .string (⟨#[111, 114]⟩ : ByteArray), .int .i64 36, .string (⟨#[120, 111, 114]⟩ : ByteArray), .int .i64 37, .string (⟨#[105, 110, 118, 101, 114, 116]⟩ : ByteArray), .int .i64 38, .string (⟨#[108, 115, 104, 105, 102, 116]⟩ : ByteArray), .int .i64 39, .string (⟨#[114, 115, 104, 105, 102, 116]⟩ : ByteArray), .int .i64 40, .string (⟨#[62, 62, 97]⟩ : ByteArray), .int .i64 41, .string (⟨#[47, 109, 111, 100]⟩ : ByteArray), .int .i64 42, .string (⟨#[117, 47, 109, 111, 100]⟩ : ByteArray), .int .i64 43, .string (⟨#[110, 101, 103, 97, 116, 101]⟩ : ByteArray), .int .i64 44, .string (⟨#[97, 98, 115]⟩ : ByteArray), .int .i64 45, .string (⟨#[109, 105, 110]⟩ : ByteArray), .int .i64 46, .string (⟨#[109, 97, 120]⟩ : ByteArray), .int .i64 47, .string (⟨#[62, 114]⟩ : ByteArray), .int .i64 48, .string (⟨#[114, 62]⟩ : ByteArray), .int .i64 49, .string (⟨#[114, 64]⟩ : ByteArray), .int .i64 50, .string (⟨#[48, 61]⟩ : ByteArray), .int .i64 52, .string (⟨#[48, 60, 62]⟩ : ByteArray), .int .i64 53, .string (⟨#[48, 60]⟩ : ByteArray), .int .i64 54, .string (⟨#[48, 60, 61]⟩ : ByteArray), .int .i64 55, .string (⟨#[48, 62]⟩ : ByteArray), .int .i64 56, .string (⟨#[48, 62, 61]⟩ : ByteArray), .int .i64 57, .string (⟨#[60]⟩ : ByteArray), .int .i64 58, .string (⟨#[62]⟩ : ByteArray), .int .i64 59, .string (⟨#[61]⟩ : ByteArray), .int .i64 60, .string (⟨#[60, 62]⟩ : ByteArray), .int .i64 61, .string (⟨#[117, 62]⟩ : ByteArray), .int .i64 62, .string (⟨#[117, 60, 61]⟩ : ByteArray), .int .i64 63, .string (⟨#[117, 60]⟩ : ByteArray), .int .i64 64, .string (⟨#[117, 62, 61]⟩ : ByteArray), .int .i64 65, .string (⟨#[62, 61]⟩ : ByteArray), .int .i64 66, .string (⟨#[60, 61]⟩ : ByteArray), .int .i64 67, .string (⟨#[100, 114, 111, 112]⟩ : ByteArray), .int .i64 70, .string (⟨#[100, 117, 112]⟩ : ByteArray), .int .i64 71, .string (⟨#[111, 118, 101, 114]⟩ : ByteArray), .int .i64 72, .string (⟨#[115, 119, 97, 112]⟩ : ByteArray), .int .i64 73, .string (⟨#[114, 111, 116]⟩ : ByteArray), .int .i64 74, .string (⟨#[45, 114, 111, 116]⟩ : ByteArray), .int .i64 75, .string (⟨#[116, 117, 99, 107]⟩ : ByteArray), .int .i64 76, .string (⟨#[110, 105, 112]⟩ : ByteArray), .int .i64 77, .string (⟨#[112, 105, 99, 107]⟩ : ByteArray), .int .i64 78, .string (⟨#[114, 111, 108, 108]⟩ : ByteArray), .int .i64 79, .string (⟨#[63, 100, 117, 112]⟩ : ByteArray), .int .i64 80, .string (⟨#[100, 101, 112, 116, 104]⟩ : ByteArray), .int .i64 81, .string (⟨#[50, 100, 114, 111, 112]⟩ : ByteArray), .int .i64 82, .string (⟨#[50, 100, 117, 112]⟩ : ByteArray), .int .i64 83, .string (⟨#[50, 111, 118, 101, 114]⟩ : ByteArray), .int .i64 84, .string (⟨#[50, 115, 119, 97, 112]⟩ : ByteArray), .int .i64 85, .string (⟨#[50, 114, 111, 116]⟩ : ByteArray), .int .i64 86, .string (⟨#[50, 47]⟩ : ByteArray), .int .i64 87, .string (⟨#[117, 50, 47]⟩ : ByteArray), .int .i64 88, .string (⟨#[50, 42]⟩ : ByteArray), .int .i64 89, .string (⟨#[43, 33]⟩ : ByteArray), .int .i64 108, .string (⟨#[64]⟩ : ByteArray), .int .i64 109, .string (⟨#[119, 64]⟩ : ByteArray), .int .i64 111, .string (⟨#[99, 64]⟩ : ByteArray), .int .i64 113, .string (⟨#[33]⟩ : ByteArray), .int .i64 114, .string (⟨#[119, 33]⟩ : ByteArray), .int .i64 116, .string (⟨#[99, 33]⟩ : ByteArray), .int .i64 117, .string (⟨#[109, 111, 118, 101]⟩ : ByteArray), .int .i64 120, .string (⟨#[102, 105, 108, 108]⟩ : ByteArray), .int .i64 121, .string (⟨#[99, 111, 109, 112]⟩ : ByteArray), .int .i64 122, .string (⟨#[108, 98, 115, 112, 108, 105, 116]⟩ : ByteArray), .int .i64 126, .string (⟨#[98, 108, 106, 111, 105, 110]⟩ : ByteArray), .int .i64 127, .string (⟨#[119, 98, 102, 108, 105, 112]⟩ : ByteArray), .int .i64 128, .string (⟨#[117, 112, 99]⟩ : ByteArray), .int .i64 129, .string (⟨#[108, 99, 99]⟩ : ByteArray), .int .i64 130, .string (⟨#[117, 110, 108, 111, 111, 112]⟩ : ByteArray), .int .i64 137, .string (⟨#[97, 108, 108, 111, 99, 45, 109, 101, 109]⟩ : ByteArray), .int .i64 139, .string (⟨#[101, 109, 105, 116]⟩ : ByteArray), .int .i64 143, .string (⟨#[116, 121, 112, 101]⟩ : ByteArray), .int .i64 144, .string (⟨#[99, 114]⟩ : ByteArray), .int .i64 146, .string (⟨#[117, 46]⟩ : ByteArray), .int .i64 155, .string (⟨#[46]⟩ : ByteArray), .int .i64 157, .string (⟨#[98, 97, 115, 101, 33]⟩ : ByteArray), .int .i64 160, .string (⟨#[45, 49]⟩ : ByteArray), .int .i64 164, .string (⟨#[48]⟩ : ByteArray), .int .i64 165, .string (⟨#[49]⟩ : ByteArray), .int .i64 166, .string (⟨#[50]⟩ : ByteArray), .int .i64 167, .string (⟨#[51]⟩ : ByteArray), .int .i64 168, .string (⟨#[98, 108]⟩ : ByteArray), .int .i64 169, .string (⟨#[104, 101, 114, 101]⟩ : ByteArray), .int .i64 173, .string (⟨#[117, 109, 42]⟩ : ByteArray), .int .i64 212, .string (⟨#[117, 109, 47, 109, 111, 100]⟩ : ByteArray), .int .i64 213, .string (⟨#[100, 43]⟩ : ByteArray), .int .i64 216, .string (⟨#[100, 45]⟩ : ByteArray), .int .i64 217, .string (⟨#[112, 114, 111, 112, 101, 114, 116, 121]⟩ : ByteArray), .int .i64 272, .string (⟨#[101, 110, 99, 111, 100, 101, 45, 105, 110, 116]⟩ : ByteArray), .int .i64 273, .string (⟨#[101, 110, 99, 111, 100, 101, 43]⟩ : ByteArray), .int .i64 274, .string (⟨#[101, 110, 99, 111, 100, 101, 45, 115, 116, 114, 105, 110, 103]⟩ : ByteArray), .int .i64 276, .string (⟨#[110, 101, 119, 45, 100, 101, 118, 105, 99, 101]⟩ : ByteArray), .int .i64 287, .string (⟨#[102, 105, 110, 105, 115, 104, 45, 100, 101, 118, 105, 99, 101]⟩ : ByteArray), .int .i64 295, .string (⟨#[115, 109, 47, 114, 101, 109]⟩ : ByteArray), .int .i64 469, .string (⟨#[109, 121, 45, 115, 101, 108, 102]⟩ : ByteArray), .int .i64 515, .string (⟨#[109, 121, 45, 112, 97, 114, 101, 110, 116]⟩ : ByteArray), .int .i64 522, .string (⟨#[36, 99, 97, 108, 108, 45, 109, 101, 116, 104, 111, 100]⟩ : ByteArray), .int .i64 526, .string (⟨#[99, 97, 116, 99, 104]⟩ : ByteArray), .int .i64 535, .string (⟨#[116, 104, 114, 111, 119]⟩ : ByteArray), .int .i64 536, .string (⟨#[103, 101, 116, 45, 109, 121, 45, 112, 114, 111, 112, 101, 114, 116, 121]⟩ : ByteArray), .int .i64 538, .string (⟨#[100, 101, 99, 111, 100, 101, 45, 105, 110, 116]⟩ : ByteArray), .int .i64 539, .string (⟨#[100, 101, 99, 111, 100, 101, 45, 115, 116, 114, 105, 110, 103]⟩ : ByteArray), .int .i64 540, .string (⟨#[100, 101, 108, 101, 116, 101, 45, 112, 114, 111, 112, 101, 114, 116, 121]⟩ : ByteArray), .int .i64 542, .string (⟨#[102, 109, 47, 109, 111, 100]⟩ : ByteArray), .int .i64 725]
set_option maxRecDepth 100000 in
theorem primCells_eq : primCells = flat37 primsL := by rfl
theorem primsL_len : primsL.length = 111 := by rfl
set_option maxHeartbeats 8000000 in
set_option maxRecDepth 100000 in
theorem prims_exact (w : World) :
    Calls Try.prog 14 #[] w fun e w' => e = .returned (.slice (some ⟨w.heap.size, 0, none⟩) 111 111) ∧ w' = w.alloc (.cells (flat37 primsL).toArray 37 (0, 0)) := by
  have hu37 := Try.underlying37
  rw [← primCells_eq]
  go_enter Try.func14, Try.ntmps14
  go_wp2_with (((with_reducible refine gate_dst (N := 112) rfl ?_); refine Kd.event_run ?hg (w1 := w.alloc (.cells primCells.toArray 37 (0, 0))) (v := .slice (some ⟨w.heap.size, 0, none⟩) 111 111) ?hr ?_; (case hg => rfl); (case hr => kernel_rfl)))
  go_ret
  exact ⟨rfl, rfl⟩
end Go.Proofs.Ytfpkakedlapmkaa.Q
end
section
set_option linter.unusedSimpArgs false
set_option linter.unusedVariables false
namespace Go.Proofs.Ytfpkakedlapmkaa.Q
open Go.RowKit Go.Proofs.YtfpkakedlapmkaaW.PrintWords Go.Proofs.YtfpkakedlapmkaaW.PrintLast
end Go.Proofs.Ytfpkakedlapmkaa.Q
end
section
set_option linter.unusedSimpArgs false
set_option linter.unusedVariables false
namespace Go.Proofs.Ytfpkakedlapmkaa.Q
open Go.RowKit Go.Proofs.YtfpkakedlapmkaaW.PrintWords Go.Proofs.YtfpkakedlapmkaaW.PrintLast
def root91 : S91 := ⟨⟨#[]⟩, [], -1, [], []⟩
theorem treeF_root : treeF [root91] = true := by kernel_rfl
theorem wordsF_new : wordsF primsL (wordsN primsL 111) = true := by kernel_rfl
set_option maxHeartbeats 2000000 in
set_option maxRecDepth 100000 in
theorem formedNew (Av : Option Addr) (c : Nat) (A5 : Option Addr) (c5 : Nat) (w : World) (hC : Kd.C k51 w Av 111 (wordsN primsL 111)) (hc : 111 ≤ c) (hT : Kd.C k91 w A5 1 [root91]) (hc5 : 1 ≤ c5) :
    Calls Try.prog 26 #[.agg (mcells (.slice Av 111 c) (.slice A5 1 c5))] w fun e w' => e = .returned (.bool true) ∧ Below w.heap.size w w' := by
  obtain ⟨l, hl⟩ : ∃ l, l = wordsN primsL 111 := ⟨_, rfl⟩
  have hlen : l.length = 111 := by rw [hl]; exact wordsN_len primsL 111 (by rw [primsL_len]; omega)
  have hF : wordsF primsL l = true := by rw [hl]; exact wordsF_new
  rw [← hl] at hC
  clear hl
  have HTF := Aside0.mk (fun (X : World) (hX : Below w.heap.size w X) => treeFormed_calls A5 c5 [root91] X (Kd.C_below hT hX) hc5)
  rw [treeF_root] at HTF
  obtain ⟨ad, rfl⟩ : ∃ ad, Av = some ad := by
    rw [← hlen] at hC
    obtain ⟨ad, _, _, hA, _⟩ := at_T51 hC 0 (by omega) (by omega)
    exact ⟨ad, hA⟩
  have HI := Aside0.mk (fun X : World => instsRight_nil (.slice none 0 0) (.slice none 0 0) (.slice (some ad) 111 c) (.slice none 0 0) 16 (.slice A5 1 c5) (-1) none 0 ⟨#[]⟩ X)
  have HWR := Aside0.mk (show ∀ X : World, Below w.heap.size w X → Calls Try.prog 47 #[.agg (mcells (.slice (some ad) 111 c) (.slice A5 1 c5))] X fun e w' => e = .returned (.bool true) ∧ Below X.heap.size X w' from fun X hX => by
    have hCX := Kd.C_below hC hX
    rw [← hlen] at hCX
    have h := wordsRight_calls primsL primsL_len prims_exact (.slice none 0 0) (.slice none 0 0) ad c l (.slice none 0 0) 16 (.slice A5 1 c5) (-1) (.slice none 0 0) (-1) ⟨#[]⟩ X hCX (by omega) (by omega) (by omega) false (fun Y hY _ => by
      have h0 : l.length - 111 = 0 := by omega
      rw [h0]
      refine (containsW_nil _ _ _ Y).mono ?_
      rintro e w' ⟨rfl, rfl⟩
      exact ⟨rfl, Below.refl _ _⟩)
    rw [hF, hlen] at h
    exact h)
  have HB := Aside0.mk (Below.refl w.heap.size w)
  clear hC hT hF hlen hc hc5
  unfold mcells at HWR ⊢
  have BK := Aside0.mk (blk_new w (.cells #[.slice none 0 0, .slice none 0 0, .slice (some ad) 111 c, .slice none 0 0, .int .u32 16, .slice A5 1 c5, .int .i64 (-1), .slice none 0 0, .int .i64 (-1), .string ⟨#[]⟩] 32 (0, 0)))
  go_enter Try.func26, Try.ntmps26
  go_wp2_with (first
    | (go_at_call 44; refine (HTF.out _ (below_alloc (Below.refl _ _) _)).mono ?_; rintro e w1 ⟨rfl, hb⟩; replace BK := Aside0.mk (blk_below BK.out hb); replace HB := Aside0.mk (below_step (below_alloc (Below.refl _ _) _) hb); clear hb; have z1_0 : w1.cell? ⟨w.heap.size, 0, none⟩ = some (.slice none 0 0) := (blk_cell BK.out 0).trans rfl; have z1_1 : w1.cell? ⟨w.heap.size, 1, none⟩ = some (.slice none 0 0) := (blk_cell BK.out 1).trans rfl; have z1_2 : w1.cell? ⟨w.heap.size, 2, none⟩ = some (.slice (some ad) 111 c) := (blk_cell BK.out 2).trans rfl; have z1_3 : w1.cell? ⟨w.heap.size, 3, none⟩ = some (.slice none 0 0) := (blk_cell BK.out 3).trans rfl; have z1_4 : w1.cell? ⟨w.heap.size, 4, none⟩ = some (.int .u32 16) := (blk_cell BK.out 4).trans rfl; have z1_5 : w1.cell? ⟨w.heap.size, 5, none⟩ = some (.slice A5 1 c5) := (blk_cell BK.out 5).trans rfl; have z1_6 : w1.cell? ⟨w.heap.size, 6, none⟩ = some (.int .i64 (-1)) := (blk_cell BK.out 6).trans rfl; have z1_7 : w1.cell? ⟨w.heap.size, 7, none⟩ = some (.slice none 0 0) := (blk_cell BK.out 7).trans rfl; have z1_8 : w1.cell? ⟨w.heap.size, 8, none⟩ = some (.int .i64 (-1)) := (blk_cell BK.out 8).trans rfl; have z1_9 : w1.cell? ⟨w.heap.size, 9, none⟩ = some (.string ⟨#[]⟩) := (blk_cell BK.out 9).trans rfl)
    | (go_at_call 46; refine (HI.out _).mono ?_; rintro e w2 ⟨rfl, hb⟩; replace BK := Aside0.mk (blk_below BK.out hb); replace HB := Aside0.mk (below_step HB.out hb); clear hb; have z2_0 : w2.cell? ⟨w.heap.size, 0, none⟩ = some (.slice none 0 0) := (blk_cell BK.out 0).trans rfl; have z2_1 : w2.cell? ⟨w.heap.size, 1, none⟩ = some (.slice none 0 0) := (blk_cell BK.out 1).trans rfl; have z2_2 : w2.cell? ⟨w.heap.size, 2, none⟩ = some (.slice (some ad) 111 c) := (blk_cell BK.out 2).trans rfl; have z2_3 : w2.cell? ⟨w.heap.size, 3, none⟩ = some (.slice none 0 0) := (blk_cell BK.out 3).trans rfl; have z2_4 : w2.cell? ⟨w.heap.size, 4, none⟩ = some (.int .u32 16) := (blk_cell BK.out 4).trans rfl; have z2_5 : w2.cell? ⟨w.heap.size, 5, none⟩ = some (.slice A5 1 c5) := (blk_cell BK.out 5).trans rfl; have z2_6 : w2.cell? ⟨w.heap.size, 6, none⟩ = some (.int .i64 (-1)) := (blk_cell BK.out 6).trans rfl; have z2_7 : w2.cell? ⟨w.heap.size, 7, none⟩ = some (.slice none 0 0) := (blk_cell BK.out 7).trans rfl; have z2_8 : w2.cell? ⟨w.heap.size, 8, none⟩ = some (.int .i64 (-1)) := (blk_cell BK.out 8).trans rfl; have z2_9 : w2.cell? ⟨w.heap.size, 9, none⟩ = some (.string ⟨#[]⟩) := (blk_cell BK.out 9).trans rfl)
    | (go_at_call 47; refine (HWR.out _ HB.out).mono ?_; rintro e w3 ⟨rfl, hb⟩; replace BK := Aside0.mk (blk_below BK.out hb); replace HB := Aside0.mk (below_step HB.out hb); clear hb; have z3_0 : w3.cell? ⟨w.heap.size, 0, none⟩ = some (.slice none 0 0) := (blk_cell BK.out 0).trans rfl; have z3_1 : w3.cell? ⟨w.heap.size, 1, none⟩ = some (.slice none 0 0) := (blk_cell BK.out 1).trans rfl; have z3_2 : w3.cell? ⟨w.heap.size, 2, none⟩ = some (.slice (some ad) 111 c) := (blk_cell BK.out 2).trans rfl; have z3_3 : w3.cell? ⟨w.heap.size, 3, none⟩ = some (.slice none 0 0) := (blk_cell BK.out 3).trans rfl; have z3_4 : w3.cell? ⟨w.heap.size, 4, none⟩ = some (.int .u32 16) := (blk_cell BK.out 4).trans rfl; have z3_5 : w3.cell? ⟨w.heap.size, 5, none⟩ = some (.slice A5 1 c5) := (blk_cell BK.out 5).trans rfl; have z3_6 : w3.cell? ⟨w.heap.size, 6, none⟩ = some (.int .i64 (-1)) := (blk_cell BK.out 6).trans rfl; have z3_7 : w3.cell? ⟨w.heap.size, 7, none⟩ = some (.slice none 0 0) := (blk_cell BK.out 7).trans rfl; have z3_8 : w3.cell? ⟨w.heap.size, 8, none⟩ = some (.int .i64 (-1)) := (blk_cell BK.out 8).trans rfl; have z3_9 : w3.cell? ⟨w.heap.size, 9, none⟩ = some (.string ⟨#[]⟩) := (blk_cell BK.out 9).trans rfl)
    | (go_at_call 48; refine (containsI_nil _ _ _ _).mono ?_; rintro e w4 ⟨rfl, rfl⟩))
  go_ret
  exact ⟨rfl, HB.out⟩
end Go.Proofs.Ytfpkakedlapmkaa.Q
end
section
set_option linter.unusedSimpArgs false
set_option linter.unusedVariables false
namespace Go.Proofs.Ytfpkakedlapmkaa.Q
open Go.RowKit Go.Proofs.YtfpkakedlapmkaaW.PrintWords Go.Proofs.YtfpkakedlapmkaaW.PrintLast
def dupB : ByteArray := ⟨#[100, 117, 112]⟩
theorem lastP_dup : lastP (isN51 dupB) (wordsN primsL 111) = (41, true) := by kernel_rfl
theorem primIdx_dup : primIdx primsL 71 = (41, true) := by kernel_rfl
theorem new2 (w : World) : Calls Try.prog 12 #[] w fun e w' => ∃ A c A5 c5, e = .returned (.agg (mcells (.slice A 111 c) (.slice A5 1 c5))) ∧ 111 ≤ c ∧ Kd.C k51 w' A 111 (wordsN primsL 111) ∧ 1 ≤ c5 ∧ Kd.C k91 w' A5 1 [root91] ∧ Below w.heap.size w w' := by
  refine (new_calls primsL primsL_len prims_exact w).mono ?_
  rintro e w' ⟨v, v5, rfl, hv, hv5, hb⟩
  obtain ⟨A, c, rfl, hc, hC⟩ := Kd.R_reads hv
  obtain ⟨A5, c5, rfl, hc5, hC5⟩ := Kd.R_reads hv5
  have hl : (wordsN primsL 111).length = 111 := wordsN_len primsL 111 (by rw [primsL_len]; omega)
  rw [hl] at hc hC ⊢
  exact ⟨A, c, A5, c5, rfl, hc, hC, hc5, hC5, hb⟩
theorem find_new (A : Option Addr) (c : Nat) (A5 : Option Addr) (c5 : Nat) (X : World) (hC : Kd.C k51 X A 111 (wordsN primsL 111)) :
    Calls Try.prog 16 #[.agg (mcells (.slice A 111 c) (.slice A5 1 c5)), .string dupB] X fun e w' => e = .returned (.tuple #[.int .i64 41, .bool true]) ∧ Below X.heap.size X w' := by
  have hl : (wordsN primsL 111).length = 111 := wordsN_len primsL 111 (by rw [primsL_len]; omega)
  have hC2 := hC
  rw [← hl] at hC2
  have h := find_calls (.slice none 0 0) (.slice none 0 0) A c (wordsN primsL 111) (.slice none 0 0) 16 (.slice A5 1 c5) (-1) (.slice none 0 0) (-1) ⟨#[]⟩ dupB X (by rw [hl]; exact hC)
  rw [lastP_dup, hl] at h
  exact h
theorem code_new (A : Option Addr) (c : Nat) (A5 : Option Addr) (c5 : Nat) (X : World) :
    Calls Try.prog 17 #[.agg (mcells (.slice A 111 c) (.slice A5 1 c5)), .int .i64 71] X fun e w' => e = .returned (.tuple #[.int .i64 41, .bool true]) ∧ Below X.heap.size X w' := by
  have h := code_low primsL primsL_len prims_exact (.slice none 0 0) (.slice none 0 0) (.slice A 111 c) (.slice none 0 0) 16 (.slice A5 1 c5) (-1) (.slice none 0 0) (-1) ⟨#[]⟩ 71 (by omega) X
  rw [primIdx_dup] at h
  exact h
set_option maxHeartbeats 2000000 in
set_option maxRecDepth 100000 in
theorem alive_calls (w : World) : Calls Try.prog 10 #[] w fun e w' => e = .returned (.bool true) ∧ Below w.heap.size w w' := by
  have HB := Aside0.mk (Below.refl w.heap.size w)
  have HN := Aside0.mk new2
  have HFD := Aside0.mk find_new
  have HCD := Aside0.mk code_new
  have HFM := Aside0.mk formedNew
  unfold mcells dupB at HFD
  unfold mcells at HN HCD HFM
  go_enter Try.func10, Try.ntmps10
  go_wp2_with (first
    | (go_at_call 12; refine (HN.out _).mono ?_; rintro e w1 ⟨A, c, A5, c5, rfl, hc, hC, hc5, hC5, hb⟩; replace HB := Aside0.mk (below_step HB.out hb); have H1 := Aside0.mk hc; have H2 := Aside0.mk hC; have H3 := Aside0.mk hc5; have H4 := Aside0.mk hC5; clear hb hc hC hc5 hC5)
    | (go_at_call 16; refine (HFD.out _ _ _ _ _ H2.out).mono ?_; rintro e w2 ⟨rfl, hb⟩; replace HB := Aside0.mk (below_step HB.out hb); clear hb)
    | (go_at_call 17; refine (HCD.out _ _ _ _ _).mono ?_; rintro e w2 ⟨rfl, hb⟩; replace HB := Aside0.mk (below_step HB.out hb); clear hb)
    | (go_at_call 26; refine (HFM.out _ _ _ _ _ H2.out H1.out H4.out H3.out).mono ?_; rintro e w2 ⟨rfl, hb⟩; replace HB := Aside0.mk (below_step HB.out hb); clear hb))
  go_ret
  exact ⟨rfl, HB.out⟩
def tinderlaw09_alive.f : Option Bool := some true
end Go.Proofs.Ytfpkakedlapmkaa.Q
end
section
set_option linter.unusedVariables false
namespace Go.Proofs.Ytfpkakedlapmkaa.Q
open Go.RowKit Go.Proofs.YtfpkakedlapmkaaW.PrintWords Go.Proofs.YtfpkakedlapmkaaW.PrintLast
def dict_Prims.f : Option (List S37) := some primsL
theorem flat37_reps (w : World) (base : Nat) (ok : Nat → Prop) : ∀ l : List S37, Reps (k37.M w base ok) 2 l (flat37 l)
  | [] => Reps.none _ _
  | x :: l => Reps.c2 (k37_mkM w base ok x) (flat37_reps w base ok l)
theorem dict_Prims.calls (r : List S37) (w : World) (h : dict_Prims.f = some r) :
    Calls Try.prog 14 #[] w fun e w' => ∃ v0_ : Value, e = .returned (v0_) ∧ Kd.R k37 37 w' w.heap.size (fun _ => True) v0_ r ∧ Below w.heap.size w w' := by
  obtain rfl := Option.some.inj h
  refine (prims_exact w).mono ?_
  rintro e w' ⟨rfl, rfl⟩
  refine ⟨_, rfl, ⟨fun _ _ => trivial, flat37 primsL, ?_, ?_⟩, below_alloc (Below.refl _ _) _⟩
  · have hfl : (flat37 primsL).length = 222 := by rfl
    have h2 := World.ownsRow_lit (base := w.heap.size) (e := 37) (size := 2) w (flat37 primsL).toArray 111 (Nat.le_refl _) (by decide) (by rw [List.size_toArray, hfl])
    rw [primsL_len]
    exact (by simpa using h2 : World.ownsRow _ _ _ 2 _ _ _)
  · exact flat37_reps _ _ _ _
def dict_Code.f (l0_0 : List Int) (l0_1 : List Int) (l0_2 : List (S51)) (l0_3 : List Int) (a0_4 : Int) (l0_5 : List (S91)) (a0_6 : Int) (l0_7 : List (S82)) (a0_8 : Int) (a0_9 : ByteArray) (a1 : Int) : Option (Int × Bool) := if a1 < 2048 then some (primIdx primsL a1) else if 0 ≤ wrap64 (a1 - 2048) then some (if wrap64 (a1 - 2048) < l0_3.length ∧ rd l0_3 (wrap64 (a1 - 2048)) ≠ -1 then (rd l0_3 (wrap64 (a1 - 2048)), true) else (0, false)) else none
end Go.Proofs.Ytfpkakedlapmkaa.Q
end
section
set_option linter.unusedVariables false
set_option linter.unusedSimpArgs false
namespace Go.Proofs.Ytfpkakedlapmkaa.Q
open Go.RowKit Go.Proofs.YtfpkakedlapmkaaW.PrintWords Go.Proofs.YtfpkakedlapmkaaW.PrintLast Go.Proofs.YtfpkakedlapmkaaW.PrintMore
def seg (cur : List Value) (sz j : Nat) : List Value := (cur.drop (j * sz)).take sz
theorem seg_get (cur : List Value) (sz j t : Nat) (ht : t < sz) : (seg cur sz j)[t]? = cur[j * sz + t]? := by
  unfold seg
  rw [List.getElem?_take, if_pos ht, List.getElem?_drop]
/-- A row of one's own, of type e, at block g: the elements ahead of i lead to rows of one's own, the others are w's. -/
def PR {α : Type} (d : Kd α) (e : TypeId) (w W : World) (base g n cap i : Nat) (xs : List α) (cur : Array Value) : Prop :=
  W.heap[g]? = some (.cells cur e (0, 0)) ∧ base ≤ g ∧ xs.length = n ∧ n ≤ cap ∧ cap ≤ maxLen ∧ cur.size = cap * d.sz ∧ ∀ (j : Nat) x, xs[j]? = some x → if j < i then d.M W base (fun k => k ≠ g) x (seg cur.toList d.sz j) else d.K w x (seg cur.toList d.sz j)
section
variable {α : Type} {d : Kd α} {e : TypeId} {w W W' : World} {base g n cap i : Nat} {xs : List α} {cur : Array Value} {ok : Nat → Prop}
end
end Go.Proofs.Ytfpkakedlapmkaa.Q
end
section
set_option linter.unusedSimpArgs false
set_option linter.unusedVariables false
namespace Go.Proofs.Ytfpkakedlapmkaa.Q
open Go.RowKit Go.Proofs.YtfpkakedlapmkaaW.PrintWords Go.Proofs.YtfpkakedlapmkaaW.PrintLast Go.Proofs.YtfpkakedlapmkaaW.PrintMore
attribute [local go_sem] max2_int min2_int max_two min_two max_three min_three max_four min_four
end Go.Proofs.Ytfpkakedlapmkaa.Q
end
section
set_option linter.unusedSimpArgs false
set_option linter.unusedVariables false
namespace Go.Proofs.Ytfpkakedlapmkaa.Q
open Go.RowKit Go.Proofs.YtfpkakedlapmkaaW.PrintWords Go.Proofs.YtfpkakedlapmkaaW.PrintLast Go.Proofs.YtfpkakedlapmkaaW.PrintMore
attribute [local go_sem] max2_int min2_int max_two min_two max_three min_three max_four min_four
def G106 (x : S106) : Prop := x.f1.length * 1 < 140737488355328
def G91 (x : S91) : Prop := x.f1.length * 4 < 140737488355328 ∧ x.f4.length * 4 < 140737488355328 ∧ x.f3.length * 40 < 140737488355328 ∧ ∀ p ∈ x.f3, G106 p
/-- All blocks but g stand as they stood. -/
def Kp (g : Nat) (a b : World) : Prop := a.heap.size ≤ b.heap.size ∧ ∀ k, k ≠ g → k < a.heap.size → b.heap[k]? = a.heap[k]?
end Go.Proofs.Ytfpkakedlapmkaa.Q
end
section
set_option linter.unusedVariables false
namespace Go.Proofs.Ytfpkakedlapmkaa.Q
open Go.RowKit Go.Proofs.YtfpkakedlapmkaaW.PrintWords Go.Proofs.YtfpkakedlapmkaaW.PrintLast
def tree_Formed.f (l0 : List S91) : Option Bool := some (treeF l0)
/-- Lists short enough for a copy to be made. -/
def shortP (x : S106) : Bool := decide (x.f1.length < 140737488355328)
def shortN (x : S91) : Bool := decide (x.f1.length * 4 < 140737488355328) && (decide (x.f4.length * 4 < 140737488355328) && (decide (x.f3.length * 40 < 140737488355328) && x.f3.all shortP))
def shortT (l : List S91) : Bool := decide (l.length * 96 < 140737488355328) && l.all shortN
def tree_Copy.f (l0 : List S91) : Option (List S91) := if shortT l0 = true then some l0 else none
def slices_Clone_uint32_uint32.f (l0 : List Int) : Option (List Int) := if l0.length * 4 < 140737488355328 then some l0 else none
def slices_Clone_byte_byte.f (l0 : List Int) : Option (List Int) := if l0.length < 140737488355328 then some l0 else none
end Go.Proofs.Ytfpkakedlapmkaa.Q
end
section
namespace Go.Proofs.Ytfpkakedlapmkaa.Q
open Go.RowKit Go.Proofs.YtfpkakedlapmkaaW.PrintWords Go.Proofs.YtfpkakedlapmkaaW.PrintLast Go.Proofs.YtfpkakedlapmkaaW.PrintMore
set_option linter.unusedVariables false
set_option linter.unusedSimpArgs false

attribute [local go_sem] max2_int min2_int max_two min_two max_three min_three max_four min_four
/-! ### tinderref08_find: function 84 -/
def tinderref08_find.l0 : Nat → List (S106) → ByteArray → Int → Option (Int)
  | 0, _, _, _ => none
  | k + 1, x0, x1, x5 => if x5 < (x0.length : Int) then (if 0 ≤ x5 then (if ((rd_T106 x0 x5).f0).toList = x1.toList then (some x5) else (tinderref08_find.l0 k x0 x1 (wrap64 (x5 + 1)))) else (none)) else (some (-1))
def tinderref08_find.f (k : Nat) (l0 : List (S106)) (a1 : ByteArray) : Option (Int) := tinderref08_find.l0 k l0 a1 0

end Go.Proofs.Ytfpkakedlapmkaa.Q
end
section
namespace Go.Proofs.Ytfpkakedlapmkaa.Q
open Go.RowKit Go.Proofs.YtfpkakedlapmkaaW.PrintWords Go.Proofs.YtfpkakedlapmkaaW.PrintLast Go.Proofs.YtfpkakedlapmkaaW.PrintMore
set_option linter.unusedVariables false
set_option linter.unusedSimpArgs false

attribute [local go_sem] max2_int min2_int max_two min_two max_three min_three max_four min_four
/-! ### tinderref03_Same: function 66 -/
def tinderref03_Same.l0 : Nat → List Int → List Int → Int → Option (Bool)
  | 0, _, _, _ => none
  | k + 1, x0, x1, x5 => if x5 < (x0.length : Int) then (if 0 ≤ x5 then (if x5 < (x1.length : Int) then (if (rd x0 x5) = (rd x1 x5) then (tinderref03_Same.l0 k x0 x1 (wrap64 (x5 + 1))) else (some false)) else (none)) else (none)) else (some true)
def tinderref03_Same.f (k : Nat) (l0 : List Int) (l1 : List Int) : Option (Bool) := if (l0.length : Int) = (l1.length : Int) then (tinderref03_Same.l0 k l0 l1 0) else (some false)
set_option maxHeartbeats 8000000 in
set_option maxRecDepth 100000 in
theorem tinderref03_Same.calls (k : Nat) (A0 : Option Addr) (c0 : Nat) (l0 : List Int) (A1 : Option Addr) (c1 : Nat) (l1 : List Int) (r : Bool) (w : World) (hr0 : Kd.C (Kd.int .u32) w A0 l0.length l0) (hc0 : l0.length ≤ c0) (hr1 : Kd.C (Kd.int .u32) w A1 l1.length l1) (hc1 : l1.length ≤ c1) (h : tinderref03_Same.f k l0 l1 = some r) :
    Calls Try.prog 66 #[.slice A0 l0.length c0, .slice A1 l1.length c1] w fun e w' => e = .returned (.bool r) ∧ Drawn0 w w' := by
  have HR0 := Aside0.mk hr0
  have HC0 := Aside0.mk hc0
  clear hr0 hc0
  have HR1 := Aside0.mk hr1
  have HC1 := Aside0.mk hc1
  clear hr1 hc1
  have H : (if (l0.length : Int) = (l1.length : Int) then (tinderref03_Same.l0 k l0 l1 0) else (some false)) = some r := h
  clear h
  by_cases c3 : (l0.length : Int) = (l1.length : Int)
  · rw [if_pos c3] at H
    have c3b0 : ((l0.length : Int) == (l1.length : Int)) = true := beq_iff_eq.mpr c3
    have c3b1 : ((l0.length : Int) != (l1.length : Int)) = false := bne_eq_false_iff_eq.mpr c3
    have c3b2 : (l0.length == l1.length) = true := by first | simpa using c3 | (simp at c3 ⊢; omega)
    clear c3
    have H' := Aside0.mk H
    clear H
    go_enter Try.func66, Try.ntmps66
    go_wp2
    repeat (go_quiet (fail); try go_wp2)
    go_loopg [5] k (fun kq v5 w' => ∃ (x5_1 : Int), v5 = .int .i64 x5_1 ∧ Aside0 (tinderref03_Same.l0 kq l0 l1 x5_1 = some r) ∧ Aside0 (kq ≤ k) ∧ Drawn0 w w')
    case atStart => exact ⟨(0), (by first | rfl | (simp; done) | (simp [*]; done)), H', ⟨Nat.le_refl _⟩, by repeat (first | exact Drawn0.refl _ | apply Drawn0.step)⟩
    case round =>
      clear H'
      try clear c1
      try clear p2
      try clear c3
      try clear c3b0
      try clear c3b1
      try clear c3b2
      obtain ⟨x5_1, rfl, HA, HK1, ⟨m1, rfl⟩⟩ := hrel
      cases gk with
      | zero => exact absurd HA.out (by simp [tinderref03_Same.l0])
      | succ k1 =>
        have H := HA.out
        clear HA
        simp only [tinderref03_Same.l0] at H
        by_cases c4 : x5_1 < (l0.length : Int)
        · rw [if_pos c4] at H
          have c4b0 : decide (x5_1 < (l0.length : Int)) = true := decide_eq_true c4
          clear c4
          by_cases c5 : 0 ≤ x5_1
          · rw [if_pos c5] at H
            have c5b0 : decide (0 ≤ x5_1) = true := decide_eq_true c5
            clear c5
            by_cases c6 : x5_1 < (l1.length : Int)
            · rw [if_pos c6] at H
              have c6b0 : decide (x5_1 < (l1.length : Int)) = true := decide_eq_true c6
              clear c6
              by_cases c7 : (rd l0 x5_1) = (rd l1 x5_1)
              · rw [if_pos c7] at H
                have c7b0 : ((rd l0 x5_1) == (rd l1 x5_1)) = true := beq_iff_eq.mpr c7
                have c7b1 : ((rd l0 x5_1) != (rd l1 x5_1)) = false := bne_eq_false_iff_eq.mpr c7
                clear c7
                have H' := Aside0.mk H
                clear H
                have p67001 : 0 ≤ (x5_1 : Int) := of_decide_eq_true (by first | (with_reducible assumption) | assumption)
                have q67001 : x5_1 < (l0.length : Int) := of_decide_eq_true (by first | (with_reducible assumption) | assumption)
                obtain ⟨ad67001, e67001, hx67001_0⟩ := Kd.at_int HR0.out x5_1 p67001 q67001
                cases e67001
                replace p67001 := eq_true p67001
                replace q67001 := eq_true q67001
                have p67002 : 0 ≤ (x5_1 : Int) := of_decide_eq_true (by first | (with_reducible assumption) | assumption)
                have q67002 : x5_1 < (l1.length : Int) := of_decide_eq_true (by first | (with_reducible assumption) | assumption)
                obtain ⟨ad67002, e67002, hx67002_0⟩ := Kd.at_int HR1.out x5_1 p67002 q67002
                cases e67002
                replace p67002 := eq_true p67002
                replace q67002 := eq_true q67002
                go_wp2
                repeat (go_quiet (fail); try go_wp2)
                go_roundg k1
                case measure => have := HK1.out; omega
                case rel => exact ⟨(wrap64 (x5_1 + 1)), (by first | rfl | (simp; done) | (simp [*]; done)), H', ⟨by have := HK1.out; omega⟩, by repeat (first | exact Drawn0.refl _ | apply Drawn0.step)⟩
              · rw [if_neg c7] at H
                have c7b0 : ((rd l0 x5_1) == (rd l1 x5_1)) = false := beq_eq_false_iff_ne.mpr c7
                have c7b1 : ((rd l0 x5_1) != (rd l1 x5_1)) = true := bne_iff_ne.mpr c7
                obtain rfl := Option.some.inj H
                have p67001 : 0 ≤ (x5_1 : Int) := of_decide_eq_true (by first | (with_reducible assumption) | assumption)
                have q67001 : x5_1 < (l0.length : Int) := of_decide_eq_true (by first | (with_reducible assumption) | assumption)
                obtain ⟨ad67001, e67001, hx67001_0⟩ := Kd.at_int HR0.out x5_1 p67001 q67001
                cases e67001
                replace p67001 := eq_true p67001
                replace q67001 := eq_true q67001
                have p67002 : 0 ≤ (x5_1 : Int) := of_decide_eq_true (by first | (with_reducible assumption) | assumption)
                have q67002 : x5_1 < (l1.length : Int) := of_decide_eq_true (by first | (with_reducible assumption) | assumption)
                obtain ⟨ad67002, e67002, hx67002_0⟩ := Kd.at_int HR1.out x5_1 p67002 q67002
                cases e67002
                replace p67002 := eq_true p67002
                replace q67002 := eq_true q67002
                go_wp2
                repeat (go_quiet (fail); try go_wp2)
                go_ret
                exact ⟨by first | rfl | (simp; done) | (simp [*]; done), by repeat (first | exact Drawn0.refl _ | apply Drawn0.step)⟩
            · rw [if_neg c6] at H
              exact absurd H (by simp)
          · rw [if_neg c5] at H
            exact absurd H (by simp)
        · rw [if_neg c4] at H
          have c4b0 : decide (x5_1 < (l0.length : Int)) = false := decide_eq_false c4
          clear c4
          obtain rfl := Option.some.inj H
          go_wp2
          repeat (go_quiet (fail); try go_wp2)
          go_ret
          exact ⟨by first | rfl | (simp; done) | (simp [*]; done), by repeat (first | exact Drawn0.refl _ | apply Drawn0.step)⟩
  · rw [if_neg c3] at H
    have c3b0 : ((l0.length : Int) == (l1.length : Int)) = false := beq_eq_false_iff_ne.mpr c3
    have c3b1 : ((l0.length : Int) != (l1.length : Int)) = true := bne_iff_ne.mpr c3
    have c3b2 : (l0.length == l1.length) = false := by first | simpa using c3 | (simp at c3 ⊢; omega)
    obtain rfl := Option.some.inj H
    go_enter Try.func66, Try.ntmps66
    go_wp2
    repeat (go_quiet (fail); try go_wp2)
    go_ret
    exact ⟨by first | rfl | (simp; done) | (simp [*]; done), by repeat (first | exact Drawn0.refl _ | apply Drawn0.step)⟩

end Go.Proofs.Ytfpkakedlapmkaa.Q
end
section
namespace Go.Proofs.Ytfpkakedlapmkaa.Q
open Go.RowKit Go.Proofs.YtfpkakedlapmkaaW.PrintWords Go.Proofs.YtfpkakedlapmkaaW.PrintLast Go.Proofs.YtfpkakedlapmkaaW.PrintMore
set_option linter.unusedVariables false
set_option linter.unusedSimpArgs false

attribute [local go_sem] max2_int min2_int max_two min_two max_three min_three max_four min_four
/-! ### tinderref08_twin: function 83 -/
def tinderref08_twin.l0 : Nat → List (S91) → Int → Int → ByteArray → List Int → Int → Option (Bool)
  | 0, _, _, _, _, _, _ => none
  | k + 1, x0, x1, x2, x3, x4, x11 => if x11 < x1 then (if 0 ≤ x11 then (if x11 < (x0.length : Int) then (if ((rd_T91 x0 x11).f2) = x2 then (if ((rd_T91 x0 x11).f0).toList = x3.toList then ((tinderref03_Same.f k ((rd_T91 x0 x11).f1) x4).bind fun t84004 => (if t84004 = true then (some true) else (tinderref08_twin.l0 k x0 x1 x2 x3 x4 (wrap64 (x11 + 1))))) else (tinderref08_twin.l0 k x0 x1 x2 x3 x4 (wrap64 (x11 + 1)))) else (tinderref08_twin.l0 k x0 x1 x2 x3 x4 (wrap64 (x11 + 1)))) else (none)) else (none)) else (some false)
def tinderref08_twin.f (k : Nat) (l0 : List (S91)) (a1 : Int) (a2 : Int) (a3 : ByteArray) (l4 : List Int) : Option (Bool) := tinderref08_twin.l0 k l0 a1 a2 a3 l4 0

end Go.Proofs.Ytfpkakedlapmkaa.Q
end
section
namespace Go.Proofs.Ytfpkakedlapmkaa.Q
open Go.RowKit Go.Proofs.YtfpkakedlapmkaaW.PrintWords Go.Proofs.YtfpkakedlapmkaaW.PrintLast Go.Proofs.YtfpkakedlapmkaaW.PrintMore
set_option linter.unusedVariables false
set_option linter.unusedSimpArgs false

attribute [local go_sem] max2_int min2_int max_two min_two max_three min_three max_four min_four
/-! ### tinderref08_Formed: function 49 -/
mutual
def tinderref08_Formed.j0 : Nat → List (S91) → Bool → Option (Bool)
  | 0, _, _ => none
  | k + 1, x0, x35 => if x35 = true then (some false) else (tinderref08_Formed.l0 k x0 0)
def tinderref08_Formed.l0 : Nat → List (S91) → Int → Option (Bool)
  | 0, _, _ => none
  | k + 1, x0, x3 => if x3 < (x0.length : Int) then (if 0 ≤ x3 then (if x3 > 0 then ((tinderref05_Named.f k ((rd_T91 x0 x3).f0)).bind fun t50006 => (if t50006 = true then (if (((rd_T91 x0 x3).f1).length : Int) > 4 then (tinderref08_Formed.j2 k x0 x3 true ((rd_T91 x0 x3).f0) ((rd_T91 x0 x3).f1) ((rd_T91 x0 x3).f2) ((rd_T91 x0 x3).f3) ((rd_T91 x0 x3).f4)) else (if ((rd_T91 x0 x3).f2) < 0 then (tinderref08_Formed.j2 k x0 x3 true ((rd_T91 x0 x3).f0) ((rd_T91 x0 x3).f1) ((rd_T91 x0 x3).f2) ((rd_T91 x0 x3).f3) ((rd_T91 x0 x3).f4)) else (if ((rd_T91 x0 x3).f2) ≥ x3 then (tinderref08_Formed.j2 k x0 x3 true ((rd_T91 x0 x3).f0) ((rd_T91 x0 x3).f1) ((rd_T91 x0 x3).f2) ((rd_T91 x0 x3).f3) ((rd_T91 x0 x3).f4)) else ((tinderref08_twin.f k x0 x3 ((rd_T91 x0 x3).f2) ((rd_T91 x0 x3).f0) ((rd_T91 x0 x3).f1)).bind fun t50007 => (tinderref08_Formed.j2 k x0 x3 t50007 ((rd_T91 x0 x3).f0) ((rd_T91 x0 x3).f1) ((rd_T91 x0 x3).f2) ((rd_T91 x0 x3).f3) ((rd_T91 x0 x3).f4)))))) else (tinderref08_Formed.j2 k x0 x3 true ((rd_T91 x0 x3).f0) ((rd_T91 x0 x3).f1) ((rd_T91 x0 x3).f2) ((rd_T91 x0 x3).f3) ((rd_T91 x0 x3).f4)))) else (tinderref08_Formed.j2 k x0 x3 false ((rd_T91 x0 x3).f0) ((rd_T91 x0 x3).f1) ((rd_T91 x0 x3).f2) ((rd_T91 x0 x3).f3) ((rd_T91 x0 x3).f4))) else (none)) else (some true)
def tinderref08_Formed.j2 : Nat → List (S91) → Int → Bool → ByteArray → List Int → Int → List (S106) → List Int → Option (Bool)
  | 0, _, _, _, _, _, _, _, _ => none
  | k + 1, x0, x3, x81, x50006000, x50006001, x50006002, x50006003, x50006004 => if x81 = true then (some false) else (if (x50006003.length : Int) > 16 then (tinderref08_Formed.j3 k x0 x3 true x50006000 x50006001 x50006002 x50006003 x50006004) else (tinderref08_Formed.j3 k x0 x3 (decide ((x50006004.length : Int) > 16)) x50006000 x50006001 x50006002 x50006003 x50006004))
def tinderref08_Formed.j3 : Nat → List (S91) → Int → Bool → ByteArray → List Int → Int → List (S106) → List Int → Option (Bool)
  | 0, _, _, _, _, _, _, _, _ => none
  | k + 1, x0, x3, x91, x50006000, x50006001, x50006002, x50006003, x50006004 => if x91 = true then (some false) else (tinderref08_Formed.l1 k x0 x3 0 x50006000 x50006001 x50006002 x50006003 x50006004)
def tinderref08_Formed.l1 : Nat → List (S91) → Int → Int → ByteArray → List Int → Int → List (S106) → List Int → Option (Bool)
  | 0, _, _, _, _, _, _, _, _ => none
  | k + 1, x0, x3, x5, x50006000, x50006001, x50006002, x50006003, x50006004 => if x5 < (x50006003.length : Int) then (if 0 ≤ x5 then ((tinderref05_Named.f k ((rd_T106 x50006003 x5).f0)).bind fun t50009 => (if t50009 = true then (if (((rd_T106 x50006003 x5).f1).length : Int) > 256 then (some false) else (if x5 ≤ (x50006003.length : Int) then ((tinderref08_find.f k (x50006003.take (x5 : Int).toNat) ((rd_T106 x50006003 x5).f0)).bind fun t50016 => (if t50016 ≥ 0 then (some false) else (tinderref08_Formed.l1 k x0 x3 (wrap64 (x5 + 1)) x50006000 x50006001 x50006002 x50006003 x50006004))) else (none))) else (some false))) else (none)) else (tinderref08_Formed.l0 k x0 (wrap64 (x3 + 1)))
end
def tinderref08_Formed.f (k : Nat) (l0 : List (S91)) : Option (Bool) := if (l0.length : Int) < 1 then (tinderref08_Formed.j0 k l0 true) else (if (l0.length : Int) > 32 then (tinderref08_Formed.j0 k l0 true) else (if 0 < (l0.length : Int) then (if ((rd_T91 l0 0).f0).toList = ([] : List UInt8) then (if (((rd_T91 l0 0).f1).length : Int) > 0 then (tinderref08_Formed.j0 k l0 true) else (tinderref08_Formed.j0 k l0 (((rd_T91 l0 0).f2) != (-1)))) else (tinderref08_Formed.j0 k l0 true)) else (none)))
def tinderref08_Formed.T14 : Bool × List (List Nat × List Nat) := (true, [([], []), ([0], [0]), ([], []), ([1, 2], [1, 2]), ([3], [3]), ([4], [4]), ([5], [5]), ([6], [6]), ([7, 6], [7]), ([8], [8]), ([9, 8], [8, 9]), ([8], [8]), ([10, 11, 8], [8, 10, 11]), ([12, 8], [8, 12]), ([13, 8], [8, 13]), ([14, 8], [8, 14]), ([15, 8], [8, 15]), ([8, 16], [8, 16]), ([17, 8], [17]), ([18], [18]), ([19, 18], [18, 19]), ([18], [18]), ([20, 21, 18], [18, 20, 21]), ([18], [18]), ([23, 18], [18, 23]), ([18], [18]), ([24, 25, 18], [18, 24, 25]), ([26, 18], [18, 26]), ([27, 18], [18, 27]), ([22, 28, 18, 18], [18, 22, 28]), ([29, 18], [18, 29]), ([18, 30], [18, 30])])
def tinderref08_Formed.B14 : List Nat := [0, 1, 0, 7, 15, 31, 63, 127, 255, 511, 1023, 511, 4095, 8191, 16383, 32767, 65535, 131071, 262143, 524287, 1048575, 524287, 4194303, 524287, 8912895, 524287, 59244543, 126353407, 260571135, 536870911, 1073741823, 2147483647]

end Go.Proofs.Ytfpkakedlapmkaa.Q
end
section
namespace Go.Proofs.Ytfpkakedlapmkaa.Q
open Go.RowKit Go.Proofs.YtfpkakedlapmkaaW.PrintWords Go.Proofs.YtfpkakedlapmkaaW.PrintLast Go.Proofs.YtfpkakedlapmkaaW.PrintMore
set_option linter.unusedVariables false
set_option linter.unusedSimpArgs false

attribute [local go_sem] max2_int min2_int max_two min_two max_three min_three max_four min_four
/-! ### tinderref04_Same: function 67 -/
def tinderref04_Same.f (l0 : List Int) (l1 : List Int) : Option (Bool) := some ((strOfNums l0).toList == (strOfNums l1).toList)
set_option maxHeartbeats 8000000 in
set_option maxRecDepth 100000 in
theorem tinderref04_Same.calls (A0 : Option Addr) (c0 : Nat) (l0 : List Int) (A1 : Option Addr) (c1 : Nat) (l1 : List Int) (r : Bool) (w : World) (hr0 : Kd.C (Kd.int .u8) w A0 l0.length l0) (hc0 : l0.length ≤ c0) (hr1 : Kd.C (Kd.int .u8) w A1 l1.length l1) (hc1 : l1.length ≤ c1) (h : tinderref04_Same.f l0 l1 = some r) :
    Calls Try.prog 67 #[.slice A0 l0.length c0, .slice A1 l1.length c1] w fun e w' => e = .returned (.bool r) ∧ Drawn0 w w' := by
  have HR0 := Aside0.mk hr0
  have HC0 := Aside0.mk hc0
  clear hr0 hc0
  have HR1 := Aside0.mk hr1
  have HC1 := Aside0.mk hc1
  clear hr1 hc1
  have H : (some ((strOfNums l0).toList == (strOfNums l1).toList)) = some r := h
  clear h
  obtain rfl := Option.some.inj H
  have hcv3 := Kd.C_string (P := Try.prog) (A := A0) (c := c0) Try.underlying25 Try.underlying5 Try.underlying9 HR0.out
  have hcv4 := Kd.C_string (P := Try.prog) (A := A1) (c := c1) Try.underlying25 Try.underlying5 Try.underlying9 HR1.out
  go_enter Try.func67, Try.ntmps67
  go_wp2
  go_ret
  exact ⟨by first | rfl | (simp; done) | (simp [*]; done), by repeat (first | exact Drawn0.refl _ | apply Drawn0.step)⟩

end Go.Proofs.Ytfpkakedlapmkaa.Q
end
section
namespace Go.Proofs.Ytfpkakedlapmkaa.Q
open Go.RowKit Go.Proofs.YtfpkakedlapmkaaW.PrintWords Go.Proofs.YtfpkakedlapmkaaW.PrintLast Go.Proofs.YtfpkakedlapmkaaW.PrintMore
set_option linter.unusedVariables false
set_option linter.unusedSimpArgs false

attribute [local go_sem] max2_int min2_int max_two min_two max_three min_three max_four min_four
/-! ### tinderref08_SameNode: function 88 -/
mutual
def tinderref08_SameNode.j0 : Nat → Bool → ByteArray → List Int → Int → List (S106) → List Int → ByteArray → List Int → Int → List (S106) → List Int → Option (Bool)
  | 0, _, _, _, _, _, _, _, _, _, _, _ => none
  | k + 1, x42, x89002000, x89002001, x89002002, x89002003, x89002004, x89003000, x89003001, x89003002, x89003003, x89003004 => if x42 = true then (some false) else (tinderref08_SameNode.l0 k 0 x89002000 x89002001 x89002002 x89002003 x89002004 x89003000 x89003001 x89003002 x89003003 x89003004)
def tinderref08_SameNode.l0 : Nat → Int → ByteArray → List Int → Int → List (S106) → List Int → ByteArray → List Int → Int → List (S106) → List Int → Option (Bool)
  | 0, _, _, _, _, _, _, _, _, _, _, _ => none
  | k + 1, x5, x89002000, x89002001, x89002002, x89002003, x89002004, x89003000, x89003001, x89003002, x89003003, x89003004 => if x5 < (x89002003.length : Int) then (if 0 ≤ x5 then (if x5 < (x89003003.length : Int) then (if ((rd_T106 x89002003 x5).f0).toList = ((rd_T106 x89003003 x5).f0).toList then ((tinderref04_Same.f ((rd_T106 x89002003 x5).f1) ((rd_T106 x89003003 x5).f1)).bind fun t89009 => (if t89009 = true then (tinderref08_SameNode.l0 k (wrap64 (x5 + 1)) x89002000 x89002001 x89002002 x89002003 x89002004 x89003000 x89003001 x89003002 x89003003 x89003004) else (some false))) else (some false)) else (none)) else (none)) else (some true)
end
def tinderref08_SameNode.f (k : Nat) (a0_0 : ByteArray) (l0_1 : List Int) (a0_2 : Int) (l0_3 : List (S106)) (l0_4 : List Int) (a1_0 : ByteArray) (l1_1 : List Int) (a1_2 : Int) (l1_3 : List (S106)) (l1_4 : List Int) : Option (Bool) := if a0_0.toList = a1_0.toList then (if a0_2 = a1_2 then ((tinderref03_Same.f k l0_1 l1_1).bind fun t89003 => (if t89003 = true then ((tinderref03_Same.f k l0_4 l1_4).bind fun t89004 => (if t89004 = true then (tinderref08_SameNode.j0 k ((l0_3.length : Int) != (l1_3.length : Int)) a0_0 l0_1 a0_2 l0_3 l0_4 a1_0 l1_1 a1_2 l1_3 l1_4) else (tinderref08_SameNode.j0 k true a0_0 l0_1 a0_2 l0_3 l0_4 a1_0 l1_1 a1_2 l1_3 l1_4))) else (tinderref08_SameNode.j0 k true a0_0 l0_1 a0_2 l0_3 l0_4 a1_0 l1_1 a1_2 l1_3 l1_4))) else (tinderref08_SameNode.j0 k true a0_0 l0_1 a0_2 l0_3 l0_4 a1_0 l1_1 a1_2 l1_3 l1_4)) else (tinderref08_SameNode.j0 k true a0_0 l0_1 a0_2 l0_3 l0_4 a1_0 l1_1 a1_2 l1_3 l1_4)

end Go.Proofs.Ytfpkakedlapmkaa.Q
end
section
namespace Go.Proofs.Ytfpkakedlapmkaa.Q
open Go.RowKit Go.Proofs.YtfpkakedlapmkaaW.PrintWords Go.Proofs.YtfpkakedlapmkaaW.PrintLast Go.Proofs.YtfpkakedlapmkaaW.PrintMore
set_option linter.unusedVariables false
set_option linter.unusedSimpArgs false

attribute [local go_sem] max2_int min2_int max_two min_two max_three min_three max_four min_four
/-! ### tinderref08_Same: function 68 -/
def tinderref08_Same.l0 : Nat → List (S91) → List (S91) → Int → Option (Bool)
  | 0, _, _, _ => none
  | k + 1, x0, x1, x5 => if x5 < (x0.length : Int) then (if 0 ≤ x5 then (if x5 < (x1.length : Int) then ((tinderref08_SameNode.f k ((rd_T91 x0 x5).f0) ((rd_T91 x0 x5).f1) ((rd_T91 x0 x5).f2) ((rd_T91 x0 x5).f3) ((rd_T91 x0 x5).f4) ((rd_T91 x1 x5).f0) ((rd_T91 x1 x5).f1) ((rd_T91 x1 x5).f2) ((rd_T91 x1 x5).f3) ((rd_T91 x1 x5).f4)).bind fun t69003 => (if t69003 = true then (tinderref08_Same.l0 k x0 x1 (wrap64 (x5 + 1))) else (some false))) else (none)) else (none)) else (some true)
def tinderref08_Same.f (k : Nat) (l0 : List (S91)) (l1 : List (S91)) : Option (Bool) := if (l0.length : Int) = (l1.length : Int) then (tinderref08_Same.l0 k l0 l1 0) else (some false)
def tinderref08_Same.T6 : Bool × List (List Nat × List Nat) := (true, [([], []), ([], []), ([0, 1], [0, 1]), ([2], [2]), ([], []), ([], []), ([4, 5], [4, 5]), ([6], [6]), ([3, 7], [3, 7]), ([8], [8])])
def tinderref08_Same.B6 : List Nat := [0, 0, 3, 7, 0, 0, 48, 112, 255, 511]

end Go.Proofs.Ytfpkakedlapmkaa.Q
end
section
set_option linter.unusedSimpArgs false
set_option linter.unusedVariables false
namespace Go.Proofs.Ytfpkakedlapmkaa.Q
open Go.RowKit Go.Proofs.YtfpkakedlapmkaaW.PrintWords Go.Proofs.YtfpkakedlapmkaaW.PrintLast
theorem same3_go (a b : List Int) (hl : a.length = b.length) (hm : a.length ≤ 9223372036854775807) : ∀ (d k : Nat) (i : Int), 0 ≤ i → i + d = a.length → d < k → tinderref03_Same.l0 k a b i = some (decide (a.drop i.toNat = b.drop i.toNat))
  | 0, k, i, h0, h1, hk => by
    obtain ⟨k, rfl⟩ : ∃ m, k = m + 1 := ⟨k - 1, by omega⟩
    rw [tinderref03_Same.l0, if_neg (by omega), List.drop_eq_nil_of_le (by omega), List.drop_eq_nil_of_le (by omega), decide_eq_true rfl]
  | d + 1, k, i, h0, h1, hk => by
    obtain ⟨k, rfl⟩ : ∃ m, k = m + 1 := ⟨k - 1, by omega⟩
    have hw : wrap64 (i + 1) = i + 1 := by unfold wrap64; omega
    rw [tinderref03_Same.l0, if_pos (by omega), if_pos h0, if_pos (by omega), hw, same3_go a b hl hm d k (i + 1) (by omega) (by omega) (by omega), int_drop a i h0 (by omega), int_drop b i h0 (by omega)]
    by_cases he : rd a i = rd b i
    · rw [if_pos he]
      congr 1
      refine decide_eq_decide.2 ⟨fun h => by rw [he, h], fun h => (List.cons.inj h).2⟩
    · rw [if_neg he, decide_eq_false (fun h => he (List.cons.inj h).1)]
theorem same3_eq (a b : List Int) (hm : a.length ≤ 9223372036854775807) (k : Nat) (hk : a.length < k) : tinderref03_Same.f k a b = some (decide (a = b)) := by
  unfold tinderref03_Same.f
  by_cases hl : a.length = b.length
  · rw [if_pos (by omega), same3_go a b hl hm a.length k 0 (Int.le_refl _) (by omega) hk]
    rfl
  · rw [if_neg (by omega), decide_eq_false (fun h => hl (by rw [h]))]
def nodeR (t : List S91) (i : Nat) : Bool := (!decide (16 < ((t.getD i z91).f4.length : Int)) && propsF (t.getD i z91).f3) && (if (i : Int) == 0 then true else kidOk (t.take i) i (t.getD i z91))
end Go.Proofs.Ytfpkakedlapmkaa.Q
end
section
set_option linter.unusedSimpArgs false
set_option linter.unusedVariables false
namespace Go.Proofs.Ytfpkakedlapmkaa.Q
open Go.RowKit Go.Proofs.YtfpkakedlapmkaaW.PrintWords Go.Proofs.YtfpkakedlapmkaaW.PrintLast
theorem same4_self (x : List Int) : tinderref04_Same.f x x = some true := by
  unfold tinderref04_Same.f
  rw [beq_self_eq_true]
/-- Lists of a device that are no longer than B. -/
def LenN (B : Nat) (x : S91) : Prop := x.f1.length ≤ B ∧ x.f4.length ≤ B ∧ x.f3.length ≤ B
end Go.Proofs.Ytfpkakedlapmkaa.Q
end
section
namespace Go.Proofs.Ytfpkakedlapmkaa.Q
open Go.RowKit Go.Proofs.YtfpkakedlapmkaaW.PrintWords Go.Proofs.YtfpkakedlapmkaaW.PrintLast Go.Proofs.YtfpkakedlapmkaaW.PrintMore
set_option linter.unusedVariables false
set_option linter.unusedSimpArgs false

attribute [local go_sem] max2_int min2_int max_two min_two max_three min_three max_four min_four
/-! ### tinderref03_Copy: function 61 -/
def tinderref03_Copy.f (l0 : List Int) : Option (List Int) := if ([] : List Int).length + l0.length < 35184372088832 then (some (([] : List Int) ++ l0)) else (none)

end Go.Proofs.Ytfpkakedlapmkaa.Q
end
section
namespace Go.Proofs.Ytfpkakedlapmkaa.Q
open Go.RowKit Go.Proofs.YtfpkakedlapmkaaW.PrintWords Go.Proofs.YtfpkakedlapmkaaW.PrintLast Go.Proofs.YtfpkakedlapmkaaW.PrintMore
set_option linter.unusedVariables false
set_option linter.unusedSimpArgs false

attribute [local go_sem] max2_int min2_int max_two min_two max_three min_three max_four min_four
/-! ### tinderref04_Copy: function 62 -/
def tinderref04_Copy.f (l0 : List Int) : Option (List Int) := if ([] : List Int).length + l0.length < 140737488355328 then (some (([] : List Int) ++ l0)) else (none)

end Go.Proofs.Ytfpkakedlapmkaa.Q
end
section
namespace Go.Proofs.Ytfpkakedlapmkaa.Q
open Go.RowKit Go.Proofs.YtfpkakedlapmkaaW.PrintWords Go.Proofs.YtfpkakedlapmkaaW.PrintLast Go.Proofs.YtfpkakedlapmkaaW.PrintMore
set_option linter.unusedVariables false
set_option linter.unusedSimpArgs false

attribute [local go_sem] max2_int min2_int max_two min_two max_three min_three max_four min_four
/-! ### tinderref08_Copy: function 63 -/
mutual
def tinderref08_Copy.l0 : Nat → List (S91) → List (S91) → Int → Option ((List (S91)))
  | 0, _, _, _ => none
  | k + 1, x0, x3, x4 => if x4 < (x0.length : Int) then (if 0 ≤ x4 then ((tinderref03_Copy.f ((rd_T91 x0 x4).f1)).bind fun t64004 => ((tinderref03_Copy.f ((rd_T91 x0 x4).f4)).bind fun t64008 => (tinderref08_Copy.l1 k x0 x3 x4 0 ((rd_T91 x0 x4).f0) t64004 ((rd_T91 x0 x4).f2) ([] : List (S106)) t64008))) else (none)) else (some x3)
def tinderref08_Copy.l1 : Nat → List (S91) → List (S91) → Int → Int → ByteArray → List Int → Int → List (S106) → List Int → Option ((List (S91)))
  | 0, _, _, _, _, _, _, _, _, _ => none
  | k + 1, x0, x3, x4, x6, x64012000, x64012001, x64012002, x64012003, x64012004 => if 0 ≤ x4 then (if x4 < (x0.length : Int) then (if x6 < (((rd_T91 x0 x4).f3).length : Int) then (if 0 ≤ x6 then ((tinderref04_Copy.f ((rd_T106 ((rd_T91 x0 x4).f3) x6).f1)).bind fun t64017 => (if x64012003.length < 3518437208883 then (tinderref08_Copy.l1 k x0 x3 x4 (wrap64 (x6 + 1)) x64012000 x64012001 x64012002 (x64012003 ++ [(⟨(rd_T106 ((rd_T91 x0 x4).f3) x6).f0, t64017⟩ : S106)]) x64012004) else (none))) else (none)) else (if x3.length < 1466015503701 then (tinderref08_Copy.l0 k x0 (x3 ++ [(⟨x64012000, x64012001, x64012002, x64012003, x64012004⟩ : S91)]) (wrap64 (x4 + 1))) else (none))) else (none)) else (none)
end
def tinderref08_Copy.f (k : Nat) (l0 : List (S91)) : Option ((List (S91))) := tinderref08_Copy.l0 k l0 ([] : List (S91)) 0
def tinderref08_Copy.T5 : Bool × List (List Nat × List Nat) := (true, [([], []), ([], []), ([0, 1], [0, 1]), ([2], [2]), ([3], [3]), ([], []), ([], []), ([5, 6], [5, 6]), ([7], [7]), ([8], [8]), ([], []), ([], []), ([10, 11], [10, 11]), ([12], [12]), ([13], [13]), ([14], [14]), ([], []), ([], []), ([16, 17], [16, 17]), ([18], [18]), ([19], [19]), ([20, 15], [20]), ([4, 9, 15, 21], [4, 9, 15, 21]), ([], []), ([23, 22, 21, 0, 1, 2, 3, 4, 5, 6, 7, 8, 9, 10, 11, 12, 13, 14, 15, 16, 17, 18, 19, 20, 21, 22, 23], [22, 23])])
def tinderref08_Copy.B5 : List Nat := [0, 0, 3, 7, 15, 0, 0, 96, 224, 480, 0, 0, 3072, 7168, 15360, 31744, 0, 0, 196608, 458752, 983040, 2096128, 4194303, 0, 16777215]
def tinderref08_Copy.T9 : Bool × List (List Nat × List Nat) := (true, [([], []), ([0], [0]), ([], []), ([], []), ([2, 3], [2, 3]), ([4], [4]), ([5], [5]), ([], []), ([6, 7], [6, 7]), ([8], [8]), ([9], [9]), ([], []), ([], []), ([11, 12], [11, 12]), ([13], [13]), ([14], [14]), ([], []), ([15, 16], [15, 16]), ([17], [17]), ([18], [18]), ([19], [19]), ([10, 20], [10, 20]), ([21], [21]), ([1, 22, 20], [1, 22]), ([0, 1, 2, 3, 4, 5, 6, 7, 8, 9, 10, 11, 12, 13, 14, 15, 16, 17, 18, 19, 20, 21, 22, 23], []), ([24, 23, 23, 0, 1, 2, 3, 4, 5, 6, 7, 8, 9, 10, 11, 12, 13, 14, 15, 16, 17, 18, 19, 20, 21, 22, 23], [23, 24])])
def tinderref08_Copy.B9 : List Nat := [0, 1, 0, 0, 12, 28, 60, 0, 252, 508, 1020, 0, 0, 6144, 14336, 30720, 0, 129024, 260096, 522240, 1046528, 2097148, 4194300, 8388607, 16777215, 33554431]

end Go.Proofs.Ytfpkakedlapmkaa.Q
end
section
set_option linter.unusedSimpArgs false
set_option linter.unusedVariables false
namespace Go.Proofs.Ytfpkakedlapmkaa.Q
open Go.RowKit Go.Proofs.YtfpkakedlapmkaaW.PrintWords Go.Proofs.YtfpkakedlapmkaaW.PrintLast
/-- Lists short enough for a copy to be made. -/
def GoodN (x : S91) : Prop := x.f1.length < 35184372088832 ∧ x.f4.length < 35184372088832 ∧ x.f3.length < 3518437208883 ∧ ∀ p ∈ x.f3, p.f1.length < 140737488355328
def GoodT (t : List S91) : Prop := t.length < 1466015503701 ∧ ∀ x ∈ t, GoodN x
end Go.Proofs.Ytfpkakedlapmkaa.Q
end
section
set_option linter.unusedSimpArgs false
set_option linter.unusedVariables false
namespace Go.Proofs.Ytfpkakedlapmkaa.Q
open Go.RowKit Go.Proofs.YtfpkakedlapmkaaW.PrintWords Go.Proofs.YtfpkakedlapmkaaW.PrintLast
section
variable {α : Type} {d : Kd α} {e : TypeId} {w W W' : World} {base g n cap i : Nat} {xs : List α} {cur cur' : Array Value} {v : Value}
def PX (d : Kd α) (e : TypeId) (w W : World) (base g n cap i : Nat) (xs : List α) (cur : Array Value) : Prop := ∃ f, PR (Kd.tag f d) e w W base g n cap i xs.zipIdx cur
/-- The same, or a list without elements. -/
def WP (d : Kd α) (e : TypeId) (w W : World) (base : Nat) (v : Value) (i : Nat) (xs : List α) : Prop :=
  (xs = [] ∧ Kd.S d e W base (fun _ => True) v xs) ∨ ∃ g cap cur, v = .slice (some ⟨g, 0, none⟩) xs.length cap ∧ PX d e w W base g xs.length cap i xs cur
end
theorem cell_step {p : Addr} {a : Value} {W w2 : World} (h : W.cell? p = some a) (hb : Below W.heap.size W w2) : w2.cell? p = some a := (hb.cell (World.block_lt_of_cell? W _ h)).trans h
end Go.Proofs.Ytfpkakedlapmkaa.Q
end
section
namespace Go.Proofs.Ytfpkakedlapmkaa.Q
open Go.RowKit Go.Proofs.YtfpkakedlapmkaaW.PrintWords Go.Proofs.YtfpkakedlapmkaaW.PrintLast Go.Proofs.YtfpkakedlapmkaaW.PrintMore
set_option linter.unusedVariables false
set_option linter.unusedSimpArgs false

attribute [local go_sem] max2_int min2_int max_two min_two max_three min_three max_four min_four
/-! ### tinderref09_SameInst: function 69 -/
def tinderref09_SameInst.f (k : Nat) (a0_0 : Int) (a0_1 : Int) (a0_2 : ByteArray) (l0_3 : List Int) (a1_0 : Int) (a1_1 : Int) (a1_2 : ByteArray) (l1_3 : List Int) : Option (Bool) := if a0_0 = a1_0 then (if a0_1 = a1_1 then (if a0_2.toList = a1_2.toList then ((tinderref03_Same.f k l0_3 l1_3).bind fun t70003 => (some t70003)) else (some false)) else (some false)) else (some false)
set_option maxHeartbeats 8000000 in
set_option maxRecDepth 100000 in
theorem tinderref09_SameInst.calls (k : Nat) (a0_0 : Int) (a0_1 : Int) (a0_2 : ByteArray) (A0_3 : Option Addr) (c0_3 : Nat) (l0_3 : List Int) (a1_0 : Int) (a1_1 : Int) (a1_2 : ByteArray) (A1_3 : Option Addr) (c1_3 : Nat) (l1_3 : List Int) (r : Bool) (w : World) (hr0_3 : Kd.C (Kd.int .u32) w A0_3 l0_3.length l0_3) (hc0_3 : l0_3.length ≤ c0_3) (hr1_3 : Kd.C (Kd.int .u32) w A1_3 l1_3.length l1_3) (hc1_3 : l1_3.length ≤ c1_3) (h : tinderref09_SameInst.f k a0_0 a0_1 a0_2 l0_3 a1_0 a1_1 a1_2 l1_3 = some r) :
    Calls Try.prog 69 #[.agg #[.int .i64 a0_0, .int .i64 a0_1, .string a0_2, .slice A0_3 l0_3.length c0_3], .agg #[.int .i64 a1_0, .int .i64 a1_1, .string a1_2, .slice A1_3 l1_3.length c1_3]] w fun e w' => e = .returned (.bool r) ∧ Below w.heap.size w w' := by
  have hu82 := Try.underlying82
  have HR0_3 := Aside0.mk hr0_3
  have HC0_3 := Aside0.mk hc0_3
  clear hr0_3 hc0_3
  have HR1_3 := Aside0.mk hr1_3
  have HC1_3 := Aside0.mk hc1_3
  clear hr1_3 hc1_3
  have HB := Aside0.mk (Below.refl w.heap.size w)
  have H : (if a0_0 = a1_0 then (if a0_1 = a1_1 then (if a0_2.toList = a1_2.toList then ((tinderref03_Same.f k l0_3 l1_3).bind fun t70003 => (some t70003)) else (some false)) else (some false)) else (some false)) = some r := h
  clear h
  by_cases c3 : a0_0 = a1_0
  · rw [if_pos c3] at H
    have c3b0 : (a0_0 == a1_0) = true := beq_iff_eq.mpr c3
    have c3b1 : (a0_0 != a1_0) = false := bne_eq_false_iff_eq.mpr c3
    clear c3
    by_cases c4 : a0_1 = a1_1
    · rw [if_pos c4] at H
      have c4b0 : (a0_1 == a1_1) = true := beq_iff_eq.mpr c4
      have c4b1 : (a0_1 != a1_1) = false := bne_eq_false_iff_eq.mpr c4
      clear c4
      by_cases c5 : a0_2.toList = a1_2.toList
      · rw [if_pos c5] at H
        have c5b0 : (a0_2.toList == a1_2.toList) = true := beq_iff_eq.mpr c5
        have c5b1 : (a0_2.toList != a1_2.toList) = false := bne_eq_false_iff_eq.mpr c5
        clear c5
        replace H := Option.bind_eq_some_iff.mp H
        obtain ⟨t70003, A60, H⟩ := H
        replace H : (some t70003) = some r := H
        have A6 := Aside0.mk A60
        clear A60
        obtain rfl := Option.some.inj H
        go_enter Try.func69, Try.ntmps69
        go_wp2_with (first | ((with_reducible refine gate_dst (N := 2) rfl ?_); refine box_event ?hg (N := 2) ?hd (cs := #[.int .i64 a0_0, .int .i64 a0_1, .string a0_2, .slice A0_3 l0_3.length c0_3]) (t := 82) ?hr ?_; (case hd => rfl); (case hg => rfl); (case hr => first | (go_simp; done) | (go_simp; rfl)); intro gb70001 hg w7 hbox hb; have n0_ := Aside0.mk (below_step (by repeat (first | (with_reducible first | exact HB.out | apply below_alloc | apply pw_below_drewN | apply below_drew1) | exact HB.out)) hb); have n1_ := Aside0.mk (hbox); have n2_ := Aside0.mk ((by rw [hg]; exact (below_size (by repeat (first | (with_reducible first | exact HB.out | apply below_alloc | apply pw_below_drewN | apply below_drew1) | exact HB.out))) : w.heap.size ≤ gb70001)); have n3_ := Aside0.mk ((by rw [hg]; exact (below_size (by repeat (first | (with_reducible first | exact HB.out | apply below_alloc | apply pw_below_drewN | apply below_drew1) | exact HB.out))) : w.heap.size ≤ gb70001)); clear HB; have HB := n0_; have BK70001 := n1_; have GW70001 := n2_; have GE70001 := n3_; clear n0_ n1_ n2_ n3_; clear hb hbox hg) | ((with_reducible refine gate_dst (N := 3) rfl ?_); refine box_event ?hg (N := 3) ?hd (cs := #[.int .i64 a1_0, .int .i64 a1_1, .string a1_2, .slice A1_3 l1_3.length c1_3]) (t := 82) ?hr ?_; (case hd => rfl); (case hg => rfl); (case hr => first | (go_simp; done) | (go_simp; rfl)); intro gb70002 hg w8 hbox hb; have n0_ := Aside0.mk (blk_below (g := gb70001) (o := .cells #[.int .i64 a0_0, .int .i64 a0_1, .string a0_2, .slice A0_3 l0_3.length c0_3] 82 (0, 0)) (by (with_reducible repeat (first | refine blk_drewN ?_ _ | refine blk_drew ?_ | refine blk_alloc ?_ _)); exact BK70001.out) hb); have n1_ := Aside0.mk (below_step (by repeat (first | (with_reducible first | exact HB.out | apply below_alloc | apply pw_below_drewN | apply below_drew1 | refine below_set ?_ GE70001.out) | exact HB.out)) hb); have n2_ := Aside0.mk (hbox); have n3_ := Aside0.mk ((by rw [hg]; exact (below_size (by repeat (first | (with_reducible first | exact HB.out | apply below_alloc | apply pw_below_drewN | apply below_drew1 | refine below_set ?_ GE70001.out) | exact HB.out))) : w.heap.size ≤ gb70002)); have n4_ := Aside0.mk ((by rw [hg]; exact (below_size (by repeat (first | (with_reducible first | exact HB.out | apply below_alloc | apply pw_below_drewN | apply below_drew1 | refine below_set ?_ GE70001.out) | exact HB.out))) : w.heap.size ≤ gb70002)); have n5_ := Aside0.mk ((by rw [hg]; exact Nat.ne_of_lt (blk_lt (g := gb70001) (o := .cells #[.int .i64 a0_0, .int .i64 a0_1, .string a0_2, .slice A0_3 l0_3.length c0_3] 82 (0, 0)) (by (with_reducible repeat (first | refine blk_drewN ?_ _ | refine blk_drew ?_ | refine blk_alloc ?_ _)); exact BK70001.out)) : gb70001 ≠ gb70002)); have n6_ := Aside0.mk ((by rw [hg]; exact Nat.ne_of_gt (blk_lt (g := gb70001) (o := .cells #[.int .i64 a0_0, .int .i64 a0_1, .string a0_2, .slice A0_3 l0_3.length c0_3] 82 (0, 0)) (by (with_reducible repeat (first | refine blk_drewN ?_ _ | refine blk_drew ?_ | refine blk_alloc ?_ _)); exact BK70001.out)) : gb70002 ≠ gb70001)); clear BK70001; clear HB; have BK70001 := n0_; have HB := n1_; have BK70002 := n2_; have GW70002 := n3_; have GE70002 := n4_; have NB70001_70002 := n5_; have NB70002_70001 := n6_; clear n0_ n1_ n2_ n3_ n4_ n5_ n6_; clear hb hbox hg; have hnb9 := NB70001_70002.out; have hnc9 := NB70002_70001.out; have hcz10_0 : w8.cell? ⟨gb70001, 0, none⟩ = some (.int .i64 a0_0) := (blk_cell BK70001.out 0).trans rfl; have hcz10_1 : w8.cell? ⟨gb70001, 1, none⟩ = some (.int .i64 a0_1) := (blk_cell BK70001.out 1).trans rfl; have hcz10_2 : w8.cell? ⟨gb70001, 2, none⟩ = some (.string a0_2) := (blk_cell BK70001.out 2).trans rfl; have hcz10_3 : w8.cell? ⟨gb70001, 3, none⟩ = some (.slice A0_3 l0_3.length c0_3) := (blk_cell BK70001.out 3).trans rfl; have hfz10_0 := blk_frozen BK70001.out 0; have hfz10_1 := blk_frozen BK70001.out 1; have hfz10_2 := blk_frozen BK70001.out 2; have hfz10_3 := blk_frozen BK70001.out 3; have hcz11_0 : w8.cell? ⟨gb70002, 0, none⟩ = some (.int .i64 a1_0) := (blk_cell BK70002.out 0).trans rfl; have hcz11_1 : w8.cell? ⟨gb70002, 1, none⟩ = some (.int .i64 a1_1) := (blk_cell BK70002.out 1).trans rfl; have hcz11_2 : w8.cell? ⟨gb70002, 2, none⟩ = some (.string a1_2) := (blk_cell BK70002.out 2).trans rfl; have hcz11_3 : w8.cell? ⟨gb70002, 3, none⟩ = some (.slice A1_3 l1_3.length c1_3) := (blk_cell BK70002.out 3).trans rfl; have hfz11_0 := blk_frozen BK70002.out 0; have hfz11_1 := blk_frozen BK70002.out 1; have hfz11_2 := blk_frozen BK70002.out 2; have hfz11_3 := blk_frozen BK70002.out 3) | (go_at_call 66; (with_reducible refine (tinderref03_Same.calls k _ _ l0_3 _ _ l1_3 t70003 _ ?side1 ?side2 ?side3 ?side4 A6.out).mono ?_); (case side1 => repeat (first | exact (Kd.C_below HR0_3.out HB.out) | (with_reducible refine Kd.C_alloc ?_ _) | (with_reducible refine Kd.C_drewN ?_ _) | (with_reducible refine Kd.C_drew ?_))); (case side2 => exact HC0_3.out); (case side3 => repeat (first | exact (Kd.C_below HR1_3.out HB.out) | (with_reducible refine Kd.C_alloc ?_ _) | (with_reducible refine Kd.C_drewN ?_ _) | (with_reducible refine Kd.C_drew ?_))); (case side4 => exact HC1_3.out); rintro e w' ⟨rfl, ⟨nd, rfl⟩⟩))
        go_ret
        exact ⟨by first | rfl | (simp [errW_none, errW_some] <;> rfl) | (simp [*, errW_none, errW_some] <;> rfl), by repeat (first | (with_reducible first | exact HB.out | apply below_alloc | apply pw_below_drewN | apply below_drew1 | refine below_set ?_ GE70001.out | refine below_set ?_ GE70002.out) | exact HB.out)⟩
      · rw [if_neg c5] at H
        have c5b0 : (a0_2.toList == a1_2.toList) = false := beq_eq_false_iff_ne.mpr c5
        have c5b1 : (a0_2.toList != a1_2.toList) = true := bne_iff_ne.mpr c5
        obtain rfl := Option.some.inj H
        go_enter Try.func69, Try.ntmps69
        go_wp2_with (first | ((with_reducible refine gate_dst (N := 2) rfl ?_); refine box_event ?hg (N := 2) ?hd (cs := #[.int .i64 a0_0, .int .i64 a0_1, .string a0_2, .slice A0_3 l0_3.length c0_3]) (t := 82) ?hr ?_; (case hd => rfl); (case hg => rfl); (case hr => first | (go_simp; done) | (go_simp; rfl)); intro gb70001 hg w12 hbox hb; have n0_ := Aside0.mk (below_step (by repeat (first | (with_reducible first | exact HB.out | apply below_alloc | apply pw_below_drewN | apply below_drew1) | exact HB.out)) hb); have n1_ := Aside0.mk (hbox); have n2_ := Aside0.mk ((by rw [hg]; exact (below_size (by repeat (first | (with_reducible first | exact HB.out | apply below_alloc | apply pw_below_drewN | apply below_drew1) | exact HB.out))) : w.heap.size ≤ gb70001)); have n3_ := Aside0.mk ((by rw [hg]; exact (below_size (by repeat (first | (with_reducible first | exact HB.out | apply below_alloc | apply pw_below_drewN | apply below_drew1) | exact HB.out))) : w.heap.size ≤ gb70001)); clear HB; have HB := n0_; have BK70001 := n1_; have GW70001 := n2_; have GE70001 := n3_; clear n0_ n1_ n2_ n3_; clear hb hbox hg) | ((with_reducible refine gate_dst (N := 3) rfl ?_); refine box_event ?hg (N := 3) ?hd (cs := #[.int .i64 a1_0, .int .i64 a1_1, .string a1_2, .slice A1_3 l1_3.length c1_3]) (t := 82) ?hr ?_; (case hd => rfl); (case hg => rfl); (case hr => first | (go_simp; done) | (go_simp; rfl)); intro gb70002 hg w13 hbox hb; have n0_ := Aside0.mk (blk_below (g := gb70001) (o := .cells #[.int .i64 a0_0, .int .i64 a0_1, .string a0_2, .slice A0_3 l0_3.length c0_3] 82 (0, 0)) (by (with_reducible repeat (first | refine blk_drewN ?_ _ | refine blk_drew ?_ | refine blk_alloc ?_ _)); exact BK70001.out) hb); have n1_ := Aside0.mk (below_step (by repeat (first | (with_reducible first | exact HB.out | apply below_alloc | apply pw_below_drewN | apply below_drew1 | refine below_set ?_ GE70001.out) | exact HB.out)) hb); have n2_ := Aside0.mk (hbox); have n3_ := Aside0.mk ((by rw [hg]; exact (below_size (by repeat (first | (with_reducible first | exact HB.out | apply below_alloc | apply pw_below_drewN | apply below_drew1 | refine below_set ?_ GE70001.out) | exact HB.out))) : w.heap.size ≤ gb70002)); have n4_ := Aside0.mk ((by rw [hg]; exact (below_size (by repeat (first | (with_reducible first | exact HB.out | apply below_alloc | apply pw_below_drewN | apply below_drew1 | refine below_set ?_ GE70001.out) | exact HB.out))) : w.heap.size ≤ gb70002)); have n5_ := Aside0.mk ((by rw [hg]; exact Nat.ne_of_lt (blk_lt (g := gb70001) (o := .cells #[.int .i64 a0_0, .int .i64 a0_1, .string a0_2, .slice A0_3 l0_3.length c0_3] 82 (0, 0)) (by (with_reducible repeat (first | refine blk_drewN ?_ _ | refine blk_drew ?_ | refine blk_alloc ?_ _)); exact BK70001.out)) : gb70001 ≠ gb70002)); have n6_ := Aside0.mk ((by rw [hg]; exact Nat.ne_of_gt (blk_lt (g := gb70001) (o := .cells #[.int .i64 a0_0, .int .i64 a0_1, .string a0_2, .slice A0_3 l0_3.length c0_3] 82 (0, 0)) (by (with_reducible repeat (first | refine blk_drewN ?_ _ | refine blk_drew ?_ | refine blk_alloc ?_ _)); exact BK70001.out)) : gb70002 ≠ gb70001)); clear BK70001; clear HB; have BK70001 := n0_; have HB := n1_; have BK70002 := n2_; have GW70002 := n3_; have GE70002 := n4_; have NB70001_70002 := n5_; have NB70002_70001 := n6_; clear n0_ n1_ n2_ n3_ n4_ n5_ n6_; clear hb hbox hg; have hnb14 := NB70001_70002.out; have hnc14 := NB70002_70001.out; have hcz15_0 : w13.cell? ⟨gb70001, 0, none⟩ = some (.int .i64 a0_0) := (blk_cell BK70001.out 0).trans rfl; have hcz15_1 : w13.cell? ⟨gb70001, 1, none⟩ = some (.int .i64 a0_1) := (blk_cell BK70001.out 1).trans rfl; have hcz15_2 : w13.cell? ⟨gb70001, 2, none⟩ = some (.string a0_2) := (blk_cell BK70001.out 2).trans rfl; have hcz15_3 : w13.cell? ⟨gb70001, 3, none⟩ = some (.slice A0_3 l0_3.length c0_3) := (blk_cell BK70001.out 3).trans rfl; have hfz15_0 := blk_frozen BK70001.out 0; have hfz15_1 := blk_frozen BK70001.out 1; have hfz15_2 := blk_frozen BK70001.out 2; have hfz15_3 := blk_frozen BK70001.out 3; have hcz16_0 : w13.cell? ⟨gb70002, 0, none⟩ = some (.int .i64 a1_0) := (blk_cell BK70002.out 0).trans rfl; have hcz16_1 : w13.cell? ⟨gb70002, 1, none⟩ = some (.int .i64 a1_1) := (blk_cell BK70002.out 1).trans rfl; have hcz16_2 : w13.cell? ⟨gb70002, 2, none⟩ = some (.string a1_2) := (blk_cell BK70002.out 2).trans rfl; have hcz16_3 : w13.cell? ⟨gb70002, 3, none⟩ = some (.slice A1_3 l1_3.length c1_3) := (blk_cell BK70002.out 3).trans rfl; have hfz16_0 := blk_frozen BK70002.out 0; have hfz16_1 := blk_frozen BK70002.out 1; have hfz16_2 := blk_frozen BK70002.out 2; have hfz16_3 := blk_frozen BK70002.out 3))
        go_ret
        exact ⟨by first | rfl | (simp [errW_none, errW_some] <;> rfl) | (simp [*, errW_none, errW_some] <;> rfl), by repeat (first | (with_reducible first | exact HB.out | apply below_alloc | apply pw_below_drewN | apply below_drew1 | refine below_set ?_ GE70001.out | refine below_set ?_ GE70002.out) | exact HB.out)⟩
    · rw [if_neg c4] at H
      have c4b0 : (a0_1 == a1_1) = false := beq_eq_false_iff_ne.mpr c4
      have c4b1 : (a0_1 != a1_1) = true := bne_iff_ne.mpr c4
      obtain rfl := Option.some.inj H
      go_enter Try.func69, Try.ntmps69
      go_wp2_with (first | ((with_reducible refine gate_dst (N := 2) rfl ?_); refine box_event ?hg (N := 2) ?hd (cs := #[.int .i64 a0_0, .int .i64 a0_1, .string a0_2, .slice A0_3 l0_3.length c0_3]) (t := 82) ?hr ?_; (case hd => rfl); (case hg => rfl); (case hr => first | (go_simp; done) | (go_simp; rfl)); intro gb70001 hg w17 hbox hb; have n0_ := Aside0.mk (below_step (by repeat (first | (with_reducible first | exact HB.out | apply below_alloc | apply pw_below_drewN | apply below_drew1) | exact HB.out)) hb); have n1_ := Aside0.mk (hbox); have n2_ := Aside0.mk ((by rw [hg]; exact (below_size (by repeat (first | (with_reducible first | exact HB.out | apply below_alloc | apply pw_below_drewN | apply below_drew1) | exact HB.out))) : w.heap.size ≤ gb70001)); have n3_ := Aside0.mk ((by rw [hg]; exact (below_size (by repeat (first | (with_reducible first | exact HB.out | apply below_alloc | apply pw_below_drewN | apply below_drew1) | exact HB.out))) : w.heap.size ≤ gb70001)); clear HB; have HB := n0_; have BK70001 := n1_; have GW70001 := n2_; have GE70001 := n3_; clear n0_ n1_ n2_ n3_; clear hb hbox hg) | ((with_reducible refine gate_dst (N := 3) rfl ?_); refine box_event ?hg (N := 3) ?hd (cs := #[.int .i64 a1_0, .int .i64 a1_1, .string a1_2, .slice A1_3 l1_3.length c1_3]) (t := 82) ?hr ?_; (case hd => rfl); (case hg => rfl); (case hr => first | (go_simp; done) | (go_simp; rfl)); intro gb70002 hg w18 hbox hb; have n0_ := Aside0.mk (blk_below (g := gb70001) (o := .cells #[.int .i64 a0_0, .int .i64 a0_1, .string a0_2, .slice A0_3 l0_3.length c0_3] 82 (0, 0)) (by (with_reducible repeat (first | refine blk_drewN ?_ _ | refine blk_drew ?_ | refine blk_alloc ?_ _)); exact BK70001.out) hb); have n1_ := Aside0.mk (below_step (by repeat (first | (with_reducible first | exact HB.out | apply below_alloc | apply pw_below_drewN | apply below_drew1 | refine below_set ?_ GE70001.out) | exact HB.out)) hb); have n2_ := Aside0.mk (hbox); have n3_ := Aside0.mk ((by rw [hg]; exact (below_size (by repeat (first | (with_reducible first | exact HB.out | apply below_alloc | apply pw_below_drewN | apply below_drew1 | refine below_set ?_ GE70001.out) | exact HB.out))) : w.heap.size ≤ gb70002)); have n4_ := Aside0.mk ((by rw [hg]; exact (below_size (by repeat (first | (with_reducible first | exact HB.out | apply below_alloc | apply pw_below_drewN | apply below_drew1 | refine below_set ?_ GE70001.out) | exact HB.out))) : w.heap.size ≤ gb70002)); have n5_ := Aside0.mk ((by rw [hg]; exact Nat.ne_of_lt (blk_lt (g := gb70001) (o := .cells #[.int .i64 a0_0, .int .i64 a0_1, .string a0_2, .slice A0_3 l0_3.length c0_3] 82 (0, 0)) (by (with_reducible repeat (first | refine blk_drewN ?_ _ | refine blk_drew ?_ | refine blk_alloc ?_ _)); exact BK70001.out)) : gb70001 ≠ gb70002)); have n6_ := Aside0.mk ((by rw [hg]; exact Nat.ne_of_gt (blk_lt (g := gb70001) (o := .cells #[.int .i64 a0_0, .int .i64 a0_1, .string a0_2, .slice A0_3 l0_3.length c0_3] 82 (0, 0)) (by (with_reducible repeat (first | refine blk_drewN ?_ _ | refine blk_drew ?_ | refine blk_alloc ?_ _)); exact BK70001.out)) : gb70002 ≠ gb70001)); clear BK70001; clear HB; have BK70001 := n0_; have HB := n1_; have BK70002 := n2_; have GW70002 := n3_; have GE70002 := n4_; have NB70001_70002 := n5_; have NB70002_70001 := n6_; clear n0_ n1_ n2_ n3_ n4_ n5_ n6_; clear hb hbox hg; have hnb19 := NB70001_70002.out; have hnc19 := NB70002_70001.out; have hcz20_0 : w18.cell? ⟨gb70001, 0, none⟩ = some (.int .i64 a0_0) := (blk_cell BK70001.out 0).trans rfl; have hcz20_1 : w18.cell? ⟨gb70001, 1, none⟩ = some (.int .i64 a0_1) := (blk_cell BK70001.out 1).trans rfl; have hcz20_2 : w18.cell? ⟨gb70001, 2, none⟩ = some (.string a0_2) := (blk_cell BK70001.out 2).trans rfl; have hcz20_3 : w18.cell? ⟨gb70001, 3, none⟩ = some (.slice A0_3 l0_3.length c0_3) := (blk_cell BK70001.out 3).trans rfl; have hfz20_0 := blk_frozen BK70001.out 0; have hfz20_1 := blk_frozen BK70001.out 1; have hfz20_2 := blk_frozen BK70001.out 2; have hfz20_3 := blk_frozen BK70001.out 3; have hcz21_0 : w18.cell? ⟨gb70002, 0, none⟩ = some (.int .i64 a1_0) := (blk_cell BK70002.out 0).trans rfl; have hcz21_1 : w18.cell? ⟨gb70002, 1, none⟩ = some (.int .i64 a1_1) := (blk_cell BK70002.out 1).trans rfl; have hcz21_2 : w18.cell? ⟨gb70002, 2, none⟩ = some (.string a1_2) := (blk_cell BK70002.out 2).trans rfl; have hcz21_3 : w18.cell? ⟨gb70002, 3, none⟩ = some (.slice A1_3 l1_3.length c1_3) := (blk_cell BK70002.out 3).trans rfl; have hfz21_0 := blk_frozen BK70002.out 0; have hfz21_1 := blk_frozen BK70002.out 1; have hfz21_2 := blk_frozen BK70002.out 2; have hfz21_3 := blk_frozen BK70002.out 3))
      go_ret
      exact ⟨by first | rfl | (simp [errW_none, errW_some] <;> rfl) | (simp [*, errW_none, errW_some] <;> rfl), by repeat (first | (with_reducible first | exact HB.out | apply below_alloc | apply pw_below_drewN | apply below_drew1 | refine below_set ?_ GE70001.out | refine below_set ?_ GE70002.out) | exact HB.out)⟩
  · rw [if_neg c3] at H
    have c3b0 : (a0_0 == a1_0) = false := beq_eq_false_iff_ne.mpr c3
    have c3b1 : (a0_0 != a1_0) = true := bne_iff_ne.mpr c3
    obtain rfl := Option.some.inj H
    go_enter Try.func69, Try.ntmps69
    go_wp2_with (first | ((with_reducible refine gate_dst (N := 2) rfl ?_); refine box_event ?hg (N := 2) ?hd (cs := #[.int .i64 a0_0, .int .i64 a0_1, .string a0_2, .slice A0_3 l0_3.length c0_3]) (t := 82) ?hr ?_; (case hd => rfl); (case hg => rfl); (case hr => first | (go_simp; done) | (go_simp; rfl)); intro gb70001 hg w22 hbox hb; have n0_ := Aside0.mk (below_step (by repeat (first | (with_reducible first | exact HB.out | apply below_alloc | apply pw_below_drewN | apply below_drew1) | exact HB.out)) hb); have n1_ := Aside0.mk (hbox); have n2_ := Aside0.mk ((by rw [hg]; exact (below_size (by repeat (first | (with_reducible first | exact HB.out | apply below_alloc | apply pw_below_drewN | apply below_drew1) | exact HB.out))) : w.heap.size ≤ gb70001)); have n3_ := Aside0.mk ((by rw [hg]; exact (below_size (by repeat (first | (with_reducible first | exact HB.out | apply below_alloc | apply pw_below_drewN | apply below_drew1) | exact HB.out))) : w.heap.size ≤ gb70001)); clear HB; have HB := n0_; have BK70001 := n1_; have GW70001 := n2_; have GE70001 := n3_; clear n0_ n1_ n2_ n3_; clear hb hbox hg) | ((with_reducible refine gate_dst (N := 3) rfl ?_); refine box_event ?hg (N := 3) ?hd (cs := #[.int .i64 a1_0, .int .i64 a1_1, .string a1_2, .slice A1_3 l1_3.length c1_3]) (t := 82) ?hr ?_; (case hd => rfl); (case hg => rfl); (case hr => first | (go_simp; done) | (go_simp; rfl)); intro gb70002 hg w23 hbox hb; have n0_ := Aside0.mk (blk_below (g := gb70001) (o := .cells #[.int .i64 a0_0, .int .i64 a0_1, .string a0_2, .slice A0_3 l0_3.length c0_3] 82 (0, 0)) (by (with_reducible repeat (first | refine blk_drewN ?_ _ | refine blk_drew ?_ | refine blk_alloc ?_ _)); exact BK70001.out) hb); have n1_ := Aside0.mk (below_step (by repeat (first | (with_reducible first | exact HB.out | apply below_alloc | apply pw_below_drewN | apply below_drew1 | refine below_set ?_ GE70001.out) | exact HB.out)) hb); have n2_ := Aside0.mk (hbox); have n3_ := Aside0.mk ((by rw [hg]; exact (below_size (by repeat (first | (with_reducible first | exact HB.out | apply below_alloc | apply pw_below_drewN | apply below_drew1 | refine below_set ?_ GE70001.out) | exact HB.out))) : w.heap.size ≤ gb70002)); have n4_ := Aside0.mk ((by rw [hg]; exact (below_size (by repeat (first | (with_reducible first | exact HB.out | apply below_alloc | apply pw_below_drewN | apply below_drew1 | refine below_set ?_ GE70001.out) | exact HB.out))) : w.heap.size ≤ gb70002)); have n5_ := Aside0.mk ((by rw [hg]; exact Nat.ne_of_lt (blk_lt (g := gb70001) (o := .cells #[.int .i64 a0_0, .int .i64 a0_1, .string a0_2, .slice A0_3 l0_3.length c0_3] 82 (0, 0)) (by (with_reducible repeat (first | refine blk_drewN ?_ _ | refine blk_drew ?_ | refine blk_alloc ?_ _)); exact BK70001.out)) : gb70001 ≠ gb70002)); have n6_ := Aside0.mk ((by rw [hg]; exact Nat.ne_of_gt (blk_lt (g := gb70001) (o := .cells #[.int .i64 a0_0, .int .i64 a0_1, .string a0_2, .slice A0_3 l0_3.length c0_3] 82 (0, 0)) (by (with_reducible repeat (first | refine blk_drewN ?_ _ | refine blk_drew ?_ | refine blk_alloc ?_ _)); exact BK70001.out)) : gb70002 ≠ gb70001)); clear BK70001; clear HB; have BK70001 := n0_; have HB := n1_; have BK70002 := n2_; have GW70002 := n3_; have GE70002 := n4_; have NB70001_70002 := n5_; have NB70002_70001 := n6_; clear n0_ n1_ n2_ n3_ n4_ n5_ n6_; clear hb hbox hg; have hnb24 := NB70001_70002.out; have hnc24 := NB70002_70001.out; have hcz25_0 : w23.cell? ⟨gb70001, 0, none⟩ = some (.int .i64 a0_0) := (blk_cell BK70001.out 0).trans rfl; have hcz25_1 : w23.cell? ⟨gb70001, 1, none⟩ = some (.int .i64 a0_1) := (blk_cell BK70001.out 1).trans rfl; have hcz25_2 : w23.cell? ⟨gb70001, 2, none⟩ = some (.string a0_2) := (blk_cell BK70001.out 2).trans rfl; have hcz25_3 : w23.cell? ⟨gb70001, 3, none⟩ = some (.slice A0_3 l0_3.length c0_3) := (blk_cell BK70001.out 3).trans rfl; have hfz25_0 := blk_frozen BK70001.out 0; have hfz25_1 := blk_frozen BK70001.out 1; have hfz25_2 := blk_frozen BK70001.out 2; have hfz25_3 := blk_frozen BK70001.out 3; have hcz26_0 : w23.cell? ⟨gb70002, 0, none⟩ = some (.int .i64 a1_0) := (blk_cell BK70002.out 0).trans rfl; have hcz26_1 : w23.cell? ⟨gb70002, 1, none⟩ = some (.int .i64 a1_1) := (blk_cell BK70002.out 1).trans rfl; have hcz26_2 : w23.cell? ⟨gb70002, 2, none⟩ = some (.string a1_2) := (blk_cell BK70002.out 2).trans rfl; have hcz26_3 : w23.cell? ⟨gb70002, 3, none⟩ = some (.slice A1_3 l1_3.length c1_3) := (blk_cell BK70002.out 3).trans rfl; have hfz26_0 := blk_frozen BK70002.out 0; have hfz26_1 := blk_frozen BK70002.out 1; have hfz26_2 := blk_frozen BK70002.out 2; have hfz26_3 := blk_frozen BK70002.out 3))
    go_ret
    exact ⟨by first | rfl | (simp [errW_none, errW_some] <;> rfl) | (simp [*, errW_none, errW_some] <;> rfl), by repeat (first | (with_reducible first | exact HB.out | apply below_alloc | apply pw_below_drewN | apply below_drew1 | refine below_set ?_ GE70001.out | refine below_set ?_ GE70002.out) | exact HB.out)⟩

end Go.Proofs.Ytfpkakedlapmkaa.Q
end
section
namespace Go.Proofs.Ytfpkakedlapmkaa.Q
open Go.RowKit Go.Proofs.YtfpkakedlapmkaaW.PrintWords Go.Proofs.YtfpkakedlapmkaaW.PrintLast Go.Proofs.YtfpkakedlapmkaaW.PrintMore
set_option linter.unusedVariables false
set_option linter.unusedSimpArgs false

attribute [local go_sem] max2_int min2_int max_two min_two max_three min_three max_four min_four
theorem eqA69 (d : Nat) (w : World) (x0 y0 : Int) (x1 y1 : Int) :
    (Op.equalIn (d + 2) 69 (.agg #[.int .i64 x0, .int .u32 x1]) (.agg #[.int .i64 y0, .int .u32 y1])).run Try.prog w = .ok (x0 == y0 && (x1 == y1)) w := by
  refine eqA_of Try.underlying69 (by kernel_rfl) ?_
  refine eqf_cons (by rfl) (by go_simp; rfl) (by go_simp; rfl) (by go_simp) ?_
  exact eqf_last (by rfl) (by go_simp; rfl) (by go_simp; rfl) (by go_simp)
end Go.Proofs.Ytfpkakedlapmkaa.Q
end
