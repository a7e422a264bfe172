/- Contracts of Go functions and plain facts, of several texts, one behind the other; no condition. -/
import Derived.Test.YtfpkakedlapmkaaMDictNewest4
import Derived.Deep.RegionHeld3
import Derived.Test.YtfpkakedlapmkaaMDictNewest2
import Derived.Test.YtfpkakedlapmkaaMDictNewest3
section
set_option linter.unusedSimpArgs false
set_option linter.unusedVariables false
namespace Go.Proofs.Ytfpkakedlapmkaa.Q
open Go.RowKit Go.Proofs.YtfpkakedlapmkaaW.PrintWords Go.Proofs.YtfpkakedlapmkaaW.PrintLast Go.Proofs.YtfpkakedlapmkaaW.PrintMore
attribute [local go_sem] max2_int min2_int max_two min_two max_three min_three max_four min_four
def pOk (l : List S106) (i : Nat) : Bool := namedF (l.getD i z106).f0 && (decide ((l.getD i z106).f1.length ≤ 256) && !(l.take i).any (isP (l.getD i z106).f0))
def propsF (l : List S106) : Bool := decide (l.length ≤ 16) && (List.range l.length).all (pOk l)
theorem info106s : (Try.prog.info? 106).map (·.size) = some 2 := by kernel_rfl
theorem range_all (n : Nat) (p : Nat → Bool) (h : ∀ j, j < n → p j = true) : (List.range n).all p = true := List.all_eq_true.2 (fun j hj => h j (List.mem_range.1 hj))
theorem range_not (n : Nat) (p : Nat → Bool) (j : Nat) (hj : j < n) (h : p j = false) : (List.range n).all p = false := by
  rw [List.all_eq_false]
  exact ⟨j, List.mem_range.2 hj, by rw [h]; exact Bool.false_ne_true⟩
/-- A box of two cells, and what lies below. -/
def Held2 (g : Nat) (a b : Value) (w w' : World) : Prop := (w'.cell? ⟨g, 0, none⟩ = some a ∧ w'.cell? ⟨g, 1, none⟩ = some b) ∧ Below w.heap.size w w'
theorem held2_start (wr w : World) (a b : Value) (t : Nat) (hb : Below w.heap.size w wr) : (((wr.alloc (.cells #[a, b] t)).cell? ⟨wr.heap.size, 0, none⟩ = some a ∧ (wr.alloc (.cells #[a, b] t)).cell? ⟨wr.heap.size, 1, none⟩ = some b) ∧ Below w.heap.size w (wr.alloc (.cells #[a, b] t))) := by
  have hh : (wr.alloc (.cells #[a, b] t)).heap[wr.heap.size]? = some (.cells #[a, b] t (0, 0)) := heap_alloc_new wr _
  exact ⟨⟨blk_cell hh 0, blk_cell hh 1⟩, below_alloc hb _⟩
theorem held2_drew (wr w : World) (a b : Value) (t : Nat) (hb : Below w.heap.size w wr) : (((wr.alloc (.cells #[a, b] t)).drew.cell? ⟨wr.heap.size, 0, none⟩ = some a ∧ (wr.alloc (.cells #[a, b] t)).drew.cell? ⟨wr.heap.size, 1, none⟩ = some b) ∧ Below w.heap.size w (wr.alloc (.cells #[a, b] t)).drew) :=
  ⟨(held2_start wr w a b t hb).1, below_drew1 (held2_start wr w a b t hb).2⟩
theorem held2_step {g : Nat} {a b : Value} {w W w2 : World} (h : (W.cell? ⟨g, 0, none⟩ = some a ∧ W.cell? ⟨g, 1, none⟩ = some b) ∧ Below w.heap.size w W) (hb : Below W.heap.size W w2) : (w2.cell? ⟨g, 0, none⟩ = some a ∧ w2.cell? ⟨g, 1, none⟩ = some b) ∧ Below w.heap.size w w2 :=
  ⟨⟨(hb.cell (World.block_lt_of_cell? _ _ h.1.1)).trans h.1.1, (hb.cell (World.block_lt_of_cell? _ _ h.1.2)).trans h.1.2⟩, below_step h.2 hb⟩
set_option maxHeartbeats 8000000 in
set_option maxRecDepth 100000 in
theorem propsFormed_calls (A : Option Addr) (c : Nat) (l : List S106) (w : World) (hC : Kd.C k106 w A l.length l) (hc : l.length ≤ c) :
    Calls Try.prog 72 #[.slice A l.length c] w fun e w' => e = .returned (.bool (propsF l)) ∧ Below w.heap.size w w' := by
  have hu106 := Try.underlying106
  have hm := Kd.C_max hC
  by_cases h16 : l.length ≤ 16
  · have d1 : decide ((16 : Int) < (l.length : Int)) = false := decide_eq_false (by omega)
    have HPF := Aside0.mk (show propsF l = (List.range l.length).all (pOk l) by unfold propsF; rw [decide_eq_true h16, Bool.true_and])
    have HC := Aside0.mk hC
    have HCC := Aside0.mk hc
    have H16 := Aside0.mk h16
    have HNM := Aside0.mk (fun (s : ByteArray) (W : World) => prop_Named.calls 400 s (namedF s) W (named_eq 400 (by decide) s))
    have HB0 := Aside0.mk (Below.refl w.heap.size w)
    have mixed : Try.prog.follows Departure.mixedOrders = true := by kernel_rfl
    clear hC hc hm h16
    go_enter Try.func72, Try.ntmps72
    go_wp2
    go_loopg [10] l.length (fun kq v8 w' => ∃ i : Int, v8 = .int .i64 i ∧ Aside0 (0 ≤ i ∧ i + kq = l.length) ∧ Aside0 (∀ j : Nat, j < i.toNat → pOk l j = true) ∧ Aside0 (Below w.heap.size w w'))
    case atStart => exact ⟨0, rfl, ⟨by omega, by omega⟩, ⟨fun j hj => absurd hj (by simp)⟩, ⟨Below.refl _ _⟩⟩
    case round =>
      obtain ⟨i, rfl, HI, HZ, HB⟩ := hrel
      cases gk with
      | zero =>
        have hlt : decide (i < (l.length : Int)) = false := decide_eq_false (by have := HI.out; omega)
        go_wp2
        go_ret
        have hz := HZ.out
        have hi := HI.out
        exact ⟨by rw [HPF.out, range_all _ _ (fun j hj => hz j (by omega))]; rfl, HB.out⟩
      | succ k1 =>
        have hi := HI.out
        have hlt : decide (i < (l.length : Int)) = true := decide_eq_true (by omega)
        have p1 : (0 ≤ i) = True := eq_true (by omega)
        have p2 : (i < (l.length : Int)) = True := eq_true (by omega)
        obtain ⟨ad, A1, c1, eA, hx0, hx1, hl1, hg1⟩ := at_T106 (Kd.C_below HC.out HB.out) i (by omega) (by omega)
        cases eA
        have hwr : IntKind.i64.wrap (i + 1) = i + 1 := (i64_w _).trans (by unfold wrap64; have := H16.out; omega)
        have hwr2 : wrap64 (i + 1) = i + 1 := by unfold wrap64; have := H16.out; omega
        have hcut := run_cut_hi (P := Try.prog) Try.underlying89 info106s (some ad) l.length c i (by omega) (by have := HCC.out; omega)
        have HTK := Aside0.mk (fun (W : World) (hb : Below w.heap.size w W) => (Kd.C_take (Kd.C_below HC.out hb) (by omega) : Kd.C k106 W (some ad) (l.take i.toNat).length (l.take i.toNat)))
        have HTL := Aside0.mk (show (l.take i.toNat).length = i.toNat by rw [List.length_take]; omega)
        have HPO := Aside0.mk (show pOk l i.toNat = (namedF (rd_T106 l i).f0 && (decide ((rd_T106 l i).f1.length ≤ 256) && !(l.take i.toNat).any (isP (rd_T106 l i).f0))) from rfl)
        generalize rd_T106 l i = x at *
        rw [← HTL.out] at hcut
        have HHI := Aside0.mk hi
        have HCN := Aside0.mk (fun (gb : Nat) (W : World) (hb : Below w.heap.size w W) (hh : W.heap[gb]? = some (.cells #[.string x.f0] 9 (0, 0))) => containsProp_calls x.f0 gb (some ad) c (l.take i.toNat) W (HTK.out W hb) hh)
        generalize l.take i.toNat = LT at *
        clear hi hl1 hg1
        have HNA := Aside0.mk (fun W : World => HNM.out x.f0 W)
        cases b1 : namedF x.f0
        · rw [b1] at HPO HNA
          go_wp2
          refine start_ (n := 19) (S := fun w' => (w'.cell? ⟨wr.heap.size, 0, none⟩ = some (.string x.f0) ∧ w'.cell? ⟨wr.heap.size, 1, none⟩ = some (.slice A1 x.f1.length c1)) ∧ Below w.heap.size w w') (ds := []) #[false, false, false, false, false, false, false, false, false, false, false, false, false, false, false, false, false, false, false] (by kernel_rfl) rfl rfl (held2_drew wr w _ _ _ HB.out) (fun hHeld => ?_)
          refine pure_ (i := 0) (N := some 15) (v := ?_) (a' := ?_) #[true, false, false, false, false, false, false, false, false, false, false, false, false, false, false, false, false, false, false] rfl rfl (by kernel_rfl) (fun _ _ _ h => h) (Or.inl ⟨by rfl, ?_⟩) ?_ ?_
          rotate_left
          · intro w'
            go_simp
            with_reducible rfl
          rotate_left
          · simp only [Act.put, List.setIfInBounds_toArray, List.set_cons_zero, List.set_cons_succ]
            rfl
          refine take_ (i := 1) (N := some 16) (v := (.string x.f0)) (a' := ?_) #[true, true, false, false, false, false, false, false, false, false, false, false, false, false, false, false, false, false, false] rfl rfl (by kernel_rfl) (fun _ _ _ h => h) (Or.inl ⟨by rfl, ?_⟩) hHeld ?_ ?_
          rotate_left
          rotate_left
          · simp only [Act.put, List.setIfInBounds_toArray, List.set_cons_zero, List.set_cons_succ]
            rfl
          rotate_left
          · rintro w' ⟨⟨s0, s1⟩, s2⟩
            go_simp
          refine one_ (i := 2) (N := some 17) #[true, true, true, false, false, false, false, false, false, false, false, false, false, false, false, false, false, false, false] rfl rfl (by kernel_rfl) (by decide) (fun K hK => ?_)
          refine goes_ Try.func73 (by kernel_rfl) rfl #[.string x.f0] (by rfl) rfl rfl (by first | rfl | (simp only [List.map_toArray, List.map_cons, List.map_nil]; rfl)) ?_
          refine (HNA.out _).mono ?_
          rintro e w2 ⟨rfl, hb⟩
          refine ⟨_, rfl, hK.out _ _ (held2_step hHeld hb) (fun hHeld => ?_)⟩
          clear hb
          clear hK K
          simp only [Act.put, List.setIfInBounds_toArray, List.set_cons_zero, List.set_cons_succ]
          refine pure_ (i := 3) (N := some 18) (v := ?_) (a' := ?_) #[true, true, true, true, false, false, false, false, false, false, false, false, false, false, false, false, false, false, false] rfl rfl (by kernel_rfl) (fun _ _ _ h => h) (Or.inl ⟨by rfl, ?_⟩) ?_ ?_
          rotate_left
          · intro w'
            go_simp
            with_reducible rfl
          rotate_left
          · simp only [Act.put, List.setIfInBounds_toArray, List.set_cons_zero, List.set_cons_succ]
            rfl
          refine pure_ (i := 4) (N := some 19) (v := ?_) (a' := ?_) #[true, true, true, true, true, false, false, false, false, false, false, false, false, false, false, false, false, false, false] rfl rfl (by kernel_rfl) (fun _ _ _ h => h) (Or.inl ⟨by rfl, ?_⟩) ?_ ?_
          rotate_left
          · intro w'
            go_simp
            with_reducible rfl
          rotate_left
          · simp only [Act.put, List.setIfInBounds_toArray, List.set_cons_zero, List.set_cons_succ]
            rfl
          refine pure_ (i := 5) (N := some 20) (v := undef) (a' := ?_) #[true, true, true, true, true, true, false, false, false, false, false, false, false, false, false, false, false, false, false] rfl rfl (by kernel_rfl) (fun _ _ _ h => h) (Or.inr ⟨by rfl, rfl⟩) ?_ ?_
          rotate_left
          · simp only [Act.put, List.setIfInBounds_toArray, List.set_cons_zero, List.set_cons_succ]
            rfl
          refine pure_ (i := 6) (N := some 21) (v := undef) (a' := ?_) #[true, true, true, true, true, true, true, false, false, false, false, false, false, false, false, false, false, false, false] rfl rfl (by kernel_rfl) (fun _ _ _ h => h) (Or.inr ⟨by rfl, rfl⟩) ?_ ?_
          rotate_left
          · simp only [Act.put, List.setIfInBounds_toArray, List.set_cons_zero, List.set_cons_succ]
            rfl
          refine pure_ (i := 7) (N := some 22) (v := undef) (a' := ?_) #[true, true, true, true, true, true, true, true, false, false, false, false, false, false, false, false, false, false, false] rfl rfl (by kernel_rfl) (fun _ _ _ h => h) (Or.inr ⟨by rfl, rfl⟩) ?_ ?_
          rotate_left
          · simp only [Act.put, List.setIfInBounds_toArray, List.set_cons_zero, List.set_cons_succ]
            rfl
          refine pure_ (i := 8) (N := some 23) (v := undef) (a' := ?_) #[true, true, true, true, true, true, true, true, true, false, false, false, false, false, false, false, false, false, false] rfl rfl (by kernel_rfl) (fun _ _ _ h => h) (Or.inr ⟨by rfl, rfl⟩) ?_ ?_
          rotate_left
          · simp only [Act.put, List.setIfInBounds_toArray, List.set_cons_zero, List.set_cons_succ]
            rfl
          refine pure_ (i := 9) (N := some 24) (v := ?_) (a' := ?_) #[true, true, true, true, true, true, true, true, true, true, false, false, false, false, false, false, false, false, false] rfl rfl (by kernel_rfl) (fun _ _ _ h => h) (Or.inl ⟨by rfl, ?_⟩) ?_ ?_
          rotate_left
          · intro w'
            go_simp
            with_reducible rfl
          rotate_left
          · simp only [Act.put, List.setIfInBounds_toArray, List.set_cons_zero, List.set_cons_succ]
            rfl
          refine pure_ (i := 10) (N := some 25) (v := ?_) (a' := ?_) #[true, true, true, true, true, true, true, true, true, true, true, false, false, false, false, false, false, false, false] rfl rfl (by kernel_rfl) (fun _ _ _ h => h) (Or.inl ⟨by rfl, ?_⟩) ?_ ?_
          rotate_left
          · intro w'
            go_simp
            with_reducible rfl
          rotate_left
          · simp only [Act.put, List.setIfInBounds_toArray, List.set_cons_zero, List.set_cons_succ]
            rfl
          refine pure_ (i := 11) (N := some 26) (v := undef) (a' := ?_) #[true, true, true, true, true, true, true, true, true, true, true, true, false, false, false, false, false, false, false] rfl rfl (by kernel_rfl) (fun _ _ _ h => h) (Or.inr ⟨by rfl, rfl⟩) ?_ ?_
          rotate_left
          · simp only [Act.put, List.setIfInBounds_toArray, List.set_cons_zero, List.set_cons_succ]
            rfl
          refine pure_ (i := 12) (N := some 27) (v := undef) (a' := ?_) #[true, true, true, true, true, true, true, true, true, true, true, true, true, false, false, false, false, false, false] rfl rfl (by kernel_rfl) (fun _ _ _ h => h) (Or.inr ⟨by rfl, rfl⟩) ?_ ?_
          rotate_left
          · simp only [Act.put, List.setIfInBounds_toArray, List.set_cons_zero, List.set_cons_succ]
            rfl
          refine pure_ (i := 13) (N := some 28) (v := undef) (a' := ?_) #[true, true, true, true, true, true, true, true, true, true, true, true, true, true, false, false, false, false, false] rfl rfl (by kernel_rfl) (fun _ _ _ h => h) (Or.inr ⟨by rfl, rfl⟩) ?_ ?_
          rotate_left
          · simp only [Act.put, List.setIfInBounds_toArray, List.set_cons_zero, List.set_cons_succ]
            rfl
          refine pure_ (i := 14) (N := some 29) (v := undef) (a' := ?_) #[true, true, true, true, true, true, true, true, true, true, true, true, true, true, true, false, false, false, false] rfl rfl (by kernel_rfl) (fun _ _ _ h => h) (Or.inr ⟨by rfl, rfl⟩) ?_ ?_
          rotate_left
          · simp only [Act.put, List.setIfInBounds_toArray, List.set_cons_zero, List.set_cons_succ]
            rfl
          refine pure_ (i := 15) (N := some 30) (v := undef) (a' := ?_) #[true, true, true, true, true, true, true, true, true, true, true, true, true, true, true, true, false, false, false] rfl rfl (by kernel_rfl) (fun _ _ _ h => h) (Or.inr ⟨by rfl, rfl⟩) ?_ ?_
          rotate_left
          · simp only [Act.put, List.setIfInBounds_toArray, List.set_cons_zero, List.set_cons_succ]
            rfl
          refine pure_ (i := 16) (N := some 31) (v := undef) (a' := ?_) #[true, true, true, true, true, true, true, true, true, true, true, true, true, true, true, true, true, false, false] rfl rfl (by kernel_rfl) (fun _ _ _ h => h) (Or.inr ⟨by rfl, rfl⟩) ?_ ?_
          rotate_left
          · simp only [Act.put, List.setIfInBounds_toArray, List.set_cons_zero, List.set_cons_succ]
            rfl
          refine pure_ (i := 17) (N := some 32) (v := undef) (a' := ?_) #[true, true, true, true, true, true, true, true, true, true, true, true, true, true, true, true, true, true, false] rfl rfl (by kernel_rfl) (fun _ _ _ h => h) (Or.inr ⟨by rfl, rfl⟩) ?_ ?_
          rotate_left
          · simp only [Act.put, List.setIfInBounds_toArray, List.set_cons_zero, List.set_cons_succ]
            rfl
          refine pure_ (i := 18) (N := some 33) (v := ?_) (a' := ?_) #[true, true, true, true, true, true, true, true, true, true, true, true, true, true, true, true, true, true, true] rfl rfl (by kernel_rfl) (fun _ _ _ h => h) (Or.inl ⟨by rfl, ?_⟩) ?_ ?_
          rotate_left
          · intro w'
            go_simp
            with_reducible rfl
          rotate_left
          · simp only [Act.put, List.setIfInBounds_toArray, List.set_cons_zero, List.set_cons_succ]
            rfl
          refine done_ (n := 0) (by kernel_rfl) ?_
          go_wp2
          go_ret
          have hi := HHI.out
          exact ⟨by rw [HPF.out, range_not _ _ i.toNat (by omega) (by rw [HPO.out]; rfl)]; rfl, hHeld.2⟩
        · rw [b1] at HPO HNA
          cases b2 : decide (x.f1.length ≤ 256)
          · rw [b2] at HPO
            have d2 : decide ((256 : Int) < (x.f1.length : Int)) = true := decide_eq_true (by have := of_decide_eq_false b2; omega)
            clear b1 b2
            go_wp2
            refine start_ (n := 19) (S := fun w' => (w'.cell? ⟨wr.heap.size, 0, none⟩ = some (.string x.f0) ∧ w'.cell? ⟨wr.heap.size, 1, none⟩ = some (.slice A1 x.f1.length c1)) ∧ Below w.heap.size w w') (ds := []) #[false, false, false, false, false, false, false, false, false, false, false, false, false, false, false, false, false, false, false] (by kernel_rfl) rfl rfl (held2_drew wr w _ _ _ HB.out) (fun hHeld => ?_)
            refine pure_ (i := 0) (N := some 15) (v := ?_) (a' := ?_) #[true, false, false, false, false, false, false, false, false, false, false, false, false, false, false, false, false, false, false] rfl rfl (by kernel_rfl) (fun _ _ _ h => h) (Or.inl ⟨by rfl, ?_⟩) ?_ ?_
            rotate_left
            · intro w'
              go_simp
              with_reducible rfl
            rotate_left
            · simp only [Act.put, List.setIfInBounds_toArray, List.set_cons_zero, List.set_cons_succ]
              rfl
            refine take_ (i := 1) (N := some 16) (v := (.string x.f0)) (a' := ?_) #[true, true, false, false, false, false, false, false, false, false, false, false, false, false, false, false, false, false, false] rfl rfl (by kernel_rfl) (fun _ _ _ h => h) (Or.inl ⟨by rfl, ?_⟩) hHeld ?_ ?_
            rotate_left
            rotate_left
            · simp only [Act.put, List.setIfInBounds_toArray, List.set_cons_zero, List.set_cons_succ]
              rfl
            rotate_left
            · rintro w' ⟨⟨s0, s1⟩, s2⟩
              go_simp
            refine one_ (i := 2) (N := some 17) #[true, true, true, false, false, false, false, false, false, false, false, false, false, false, false, false, false, false, false] rfl rfl (by kernel_rfl) (by decide) (fun K hK => ?_)
            refine goes_ Try.func73 (by kernel_rfl) rfl #[.string x.f0] (by rfl) rfl rfl (by first | rfl | (simp only [List.map_toArray, List.map_cons, List.map_nil]; rfl)) ?_
            refine (HNA.out _).mono ?_
            rintro e w2 ⟨rfl, hb⟩
            refine ⟨_, rfl, hK.out _ _ (held2_step hHeld hb) (fun hHeld => ?_)⟩
            clear hb
            clear hK K
            simp only [Act.put, List.setIfInBounds_toArray, List.set_cons_zero, List.set_cons_succ]
            refine pure_ (i := 3) (N := some 18) (v := ?_) (a' := ?_) #[true, true, true, true, false, false, false, false, false, false, false, false, false, false, false, false, false, false, false] rfl rfl (by kernel_rfl) (fun _ _ _ h => h) (Or.inl ⟨by rfl, ?_⟩) ?_ ?_
            rotate_left
            · intro w'
              go_simp
              with_reducible rfl
            rotate_left
            · simp only [Act.put, List.setIfInBounds_toArray, List.set_cons_zero, List.set_cons_succ]
              rfl
            refine pure_ (i := 4) (N := some 19) (v := ?_) (a' := ?_) #[true, true, true, true, true, false, false, false, false, false, false, false, false, false, false, false, false, false, false] rfl rfl (by kernel_rfl) (fun _ _ _ h => h) (Or.inl ⟨by rfl, ?_⟩) ?_ ?_
            rotate_left
            · intro w'
              go_simp
              with_reducible rfl
            rotate_left
            · simp only [Act.put, List.setIfInBounds_toArray, List.set_cons_zero, List.set_cons_succ]
              rfl
            refine pure_ (i := 5) (N := some 20) (v := ?_) (a' := ?_) #[true, true, true, true, true, true, false, false, false, false, false, false, false, false, false, false, false, false, false] rfl rfl (by kernel_rfl) (fun _ _ _ h => h) (Or.inl ⟨by rfl, ?_⟩) ?_ ?_
            rotate_left
            · intro w'
              go_simp
              with_reducible rfl
            rotate_left
            · simp only [Act.put, List.setIfInBounds_toArray, List.set_cons_zero, List.set_cons_succ]
              rfl
            refine take_ (i := 6) (N := some 21) (v := (.slice A1 x.f1.length c1)) (a' := ?_) #[true, true, true, true, true, true, true, false, false, false, false, false, false, false, false, false, false, false, false] rfl rfl (by kernel_rfl) (fun _ _ _ h => h) (Or.inl ⟨by rfl, ?_⟩) hHeld ?_ ?_
            rotate_left
            rotate_left
            · simp only [Act.put, List.setIfInBounds_toArray, List.set_cons_zero, List.set_cons_succ]
              rfl
            rotate_left
            · rintro w' ⟨⟨s0, s1⟩, s2⟩
              go_simp
            refine pure_ (i := 7) (N := some 22) (v := ?_) (a' := ?_) #[true, true, true, true, true, true, true, true, false, false, false, false, false, false, false, false, false, false, false] rfl rfl (by kernel_rfl) (fun _ _ _ h => h) (Or.inl ⟨by rfl, ?_⟩) ?_ ?_
            rotate_left
            · intro w'
              go_simp
              with_reducible rfl
            rotate_left
            · simp only [Act.put, List.setIfInBounds_toArray, List.set_cons_zero, List.set_cons_succ]
              rfl
            refine pure_ (i := 8) (N := some 23) (v := ?_) (a' := ?_) #[true, true, true, true, true, true, true, true, true, false, false, false, false, false, false, false, false, false, false] rfl rfl (by kernel_rfl) (fun _ _ _ h => h) (Or.inl ⟨by rfl, ?_⟩) ?_ ?_
            rotate_left
            · intro w'
              go_simp
              with_reducible rfl
            rotate_left
            · simp only [Act.put, List.setIfInBounds_toArray, List.set_cons_zero, List.set_cons_succ]
              rfl
            refine pure_ (i := 9) (N := some 24) (v := ?_) (a' := ?_) #[true, true, true, true, true, true, true, true, true, true, false, false, false, false, false, false, false, false, false] rfl rfl (by kernel_rfl) (fun _ _ _ h => h) (Or.inl ⟨by rfl, ?_⟩) ?_ ?_
            rotate_left
            · intro w'
              go_simp
              with_reducible rfl
            rotate_left
            · simp only [Act.put, List.setIfInBounds_toArray, List.set_cons_zero, List.set_cons_succ]
              rfl
            refine pure_ (i := 10) (N := some 25) (v := ?_) (a' := ?_) #[true, true, true, true, true, true, true, true, true, true, true, false, false, false, false, false, false, false, false] rfl rfl (by kernel_rfl) (fun _ _ _ h => h) (Or.inl ⟨by rfl, ?_⟩) ?_ ?_
            rotate_left
            · intro w'
              go_simp
              with_reducible rfl
            rotate_left
            · simp only [Act.put, List.setIfInBounds_toArray, List.set_cons_zero, List.set_cons_succ]
              rfl
            refine pure_ (i := 11) (N := some 26) (v := undef) (a' := ?_) #[true, true, true, true, true, true, true, true, true, true, true, true, false, false, false, false, false, false, false] rfl rfl (by kernel_rfl) (fun _ _ _ h => h) (Or.inr ⟨by rfl, rfl⟩) ?_ ?_
            rotate_left
            · simp only [Act.put, List.setIfInBounds_toArray, List.set_cons_zero, List.set_cons_succ]
              rfl
            refine pure_ (i := 12) (N := some 27) (v := undef) (a' := ?_) #[true, true, true, true, true, true, true, true, true, true, true, true, true, false, false, false, false, false, false] rfl rfl (by kernel_rfl) (fun _ _ _ h => h) (Or.inr ⟨by rfl, rfl⟩) ?_ ?_
            rotate_left
            · simp only [Act.put, List.setIfInBounds_toArray, List.set_cons_zero, List.set_cons_succ]
              rfl
            refine pure_ (i := 13) (N := some 28) (v := undef) (a' := ?_) #[true, true, true, true, true, true, true, true, true, true, true, true, true, true, false, false, false, false, false] rfl rfl (by kernel_rfl) (fun _ _ _ h => h) (Or.inr ⟨by rfl, rfl⟩) ?_ ?_
            rotate_left
            · simp only [Act.put, List.setIfInBounds_toArray, List.set_cons_zero, List.set_cons_succ]
              rfl
            refine pure_ (i := 14) (N := some 29) (v := undef) (a' := ?_) #[true, true, true, true, true, true, true, true, true, true, true, true, true, true, true, false, false, false, false] rfl rfl (by kernel_rfl) (fun _ _ _ h => h) (Or.inr ⟨by rfl, rfl⟩) ?_ ?_
            rotate_left
            · simp only [Act.put, List.setIfInBounds_toArray, List.set_cons_zero, List.set_cons_succ]
              rfl
            refine pure_ (i := 15) (N := some 30) (v := undef) (a' := ?_) #[true, true, true, true, true, true, true, true, true, true, true, true, true, true, true, true, false, false, false] rfl rfl (by kernel_rfl) (fun _ _ _ h => h) (Or.inr ⟨by rfl, rfl⟩) ?_ ?_
            rotate_left
            · simp only [Act.put, List.setIfInBounds_toArray, List.set_cons_zero, List.set_cons_succ]
              rfl
            refine pure_ (i := 16) (N := some 31) (v := undef) (a' := ?_) #[true, true, true, true, true, true, true, true, true, true, true, true, true, true, true, true, true, false, false] rfl rfl (by kernel_rfl) (fun _ _ _ h => h) (Or.inr ⟨by rfl, rfl⟩) ?_ ?_
            rotate_left
            · simp only [Act.put, List.setIfInBounds_toArray, List.set_cons_zero, List.set_cons_succ]
              rfl
            refine pure_ (i := 17) (N := some 32) (v := undef) (a' := ?_) #[true, true, true, true, true, true, true, true, true, true, true, true, true, true, true, true, true, true, false] rfl rfl (by kernel_rfl) (fun _ _ _ h => h) (Or.inr ⟨by rfl, rfl⟩) ?_ ?_
            rotate_left
            · simp only [Act.put, List.setIfInBounds_toArray, List.set_cons_zero, List.set_cons_succ]
              rfl
            refine pure_ (i := 18) (N := some 33) (v := ?_) (a' := ?_) #[true, true, true, true, true, true, true, true, true, true, true, true, true, true, true, true, true, true, true] rfl rfl (by kernel_rfl) (fun _ _ _ h => h) (Or.inl ⟨by rfl, ?_⟩) ?_ ?_
            rotate_left
            · intro w'
              go_simp
              with_reducible rfl
            rotate_left
            · simp only [Act.put, List.setIfInBounds_toArray, List.set_cons_zero, List.set_cons_succ]
              rfl
            refine done_ (n := 0) (by kernel_rfl) ?_
            go_wp2
            go_ret
            have hi := HHI.out
            exact ⟨by rw [HPF.out, range_not _ _ i.toNat (by omega) (by rw [HPO.out]; rfl)]; rfl, hHeld.2⟩
          · rw [b2] at HPO
            have d2 : decide ((256 : Int) < (x.f1.length : Int)) = false := decide_eq_false (by have := of_decide_eq_true b2; omega)
            clear b2
            cases b3 : LT.any (isP x.f0)
            · rw [b3] at HPO
              rw [b3] at HCN
              clear b1 b3
              go_wp2
              refine start_ (n := 19) (S := fun w' => (w'.cell? ⟨wr.heap.size, 0, none⟩ = some (.string x.f0) ∧ w'.cell? ⟨wr.heap.size, 1, none⟩ = some (.slice A1 x.f1.length c1)) ∧ Below w.heap.size w w') (ds := []) #[false, false, false, false, false, false, false, false, false, false, false, false, false, false, false, false, false, false, false] (by kernel_rfl) rfl rfl (held2_drew wr w _ _ _ HB.out) (fun hHeld => ?_)
              refine pure_ (i := 0) (N := some 15) (v := ?_) (a' := ?_) #[true, false, false, false, false, false, false, false, false, false, false, false, false, false, false, false, false, false, false] rfl rfl (by kernel_rfl) (fun _ _ _ h => h) (Or.inl ⟨by rfl, ?_⟩) ?_ ?_
              rotate_left
              · intro w'
                go_simp
                with_reducible rfl
              rotate_left
              · simp only [Act.put, List.setIfInBounds_toArray, List.set_cons_zero, List.set_cons_succ]
                rfl
              refine take_ (i := 1) (N := some 16) (v := (.string x.f0)) (a' := ?_) #[true, true, false, false, false, false, false, false, false, false, false, false, false, false, false, false, false, false, false] rfl rfl (by kernel_rfl) (fun _ _ _ h => h) (Or.inl ⟨by rfl, ?_⟩) hHeld ?_ ?_
              rotate_left
              rotate_left
              · simp only [Act.put, List.setIfInBounds_toArray, List.set_cons_zero, List.set_cons_succ]
                rfl
              rotate_left
              · rintro w' ⟨⟨s0, s1⟩, s2⟩
                go_simp
              refine one_ (i := 2) (N := some 17) #[true, true, true, false, false, false, false, false, false, false, false, false, false, false, false, false, false, false, false] rfl rfl (by kernel_rfl) (by decide) (fun K hK => ?_)
              refine goes_ Try.func73 (by kernel_rfl) rfl #[.string x.f0] (by rfl) rfl rfl (by first | rfl | (simp only [List.map_toArray, List.map_cons, List.map_nil]; rfl)) ?_
              refine (HNA.out _).mono ?_
              rintro e w2 ⟨rfl, hb⟩
              refine ⟨_, rfl, hK.out _ _ (held2_step hHeld hb) (fun hHeld => ?_)⟩
              clear hb
              clear hK K
              simp only [Act.put, List.setIfInBounds_toArray, List.set_cons_zero, List.set_cons_succ]
              refine pure_ (i := 3) (N := some 18) (v := ?_) (a' := ?_) #[true, true, true, true, false, false, false, false, false, false, false, false, false, false, false, false, false, false, false] rfl rfl (by kernel_rfl) (fun _ _ _ h => h) (Or.inl ⟨by rfl, ?_⟩) ?_ ?_
              rotate_left
              · intro w'
                go_simp
                with_reducible rfl
              rotate_left
              · simp only [Act.put, List.setIfInBounds_toArray, List.set_cons_zero, List.set_cons_succ]
                rfl
              refine pure_ (i := 4) (N := some 19) (v := ?_) (a' := ?_) #[true, true, true, true, true, false, false, false, false, false, false, false, false, false, false, false, false, false, false] rfl rfl (by kernel_rfl) (fun _ _ _ h => h) (Or.inl ⟨by rfl, ?_⟩) ?_ ?_
              rotate_left
              · intro w'
                go_simp
                with_reducible rfl
              rotate_left
              · simp only [Act.put, List.setIfInBounds_toArray, List.set_cons_zero, List.set_cons_succ]
                rfl
              refine pure_ (i := 5) (N := some 20) (v := ?_) (a' := ?_) #[true, true, true, true, true, true, false, false, false, false, false, false, false, false, false, false, false, false, false] rfl rfl (by kernel_rfl) (fun _ _ _ h => h) (Or.inl ⟨by rfl, ?_⟩) ?_ ?_
              rotate_left
              · intro w'
                go_simp
                with_reducible rfl
              rotate_left
              · simp only [Act.put, List.setIfInBounds_toArray, List.set_cons_zero, List.set_cons_succ]
                rfl
              refine take_ (i := 6) (N := some 21) (v := (.slice A1 x.f1.length c1)) (a' := ?_) #[true, true, true, true, true, true, true, false, false, false, false, false, false, false, false, false, false, false, false] rfl rfl (by kernel_rfl) (fun _ _ _ h => h) (Or.inl ⟨by rfl, ?_⟩) hHeld ?_ ?_
              rotate_left
              rotate_left
              · simp only [Act.put, List.setIfInBounds_toArray, List.set_cons_zero, List.set_cons_succ]
                rfl
              rotate_left
              · rintro w' ⟨⟨s0, s1⟩, s2⟩
                go_simp
              refine pure_ (i := 7) (N := some 22) (v := ?_) (a' := ?_) #[true, true, true, true, true, true, true, true, false, false, false, false, false, false, false, false, false, false, false] rfl rfl (by kernel_rfl) (fun _ _ _ h => h) (Or.inl ⟨by rfl, ?_⟩) ?_ ?_
              rotate_left
              · intro w'
                go_simp
                with_reducible rfl
              rotate_left
              · simp only [Act.put, List.setIfInBounds_toArray, List.set_cons_zero, List.set_cons_succ]
                rfl
              refine pure_ (i := 8) (N := some 23) (v := ?_) (a' := ?_) #[true, true, true, true, true, true, true, true, true, false, false, false, false, false, false, false, false, false, false] rfl rfl (by kernel_rfl) (fun _ _ _ h => h) (Or.inl ⟨by rfl, ?_⟩) ?_ ?_
              rotate_left
              · intro w'
                go_simp
                with_reducible rfl
              rotate_left
              · simp only [Act.put, List.setIfInBounds_toArray, List.set_cons_zero, List.set_cons_succ]
                rfl
              refine pure_ (i := 9) (N := some 24) (v := ?_) (a' := ?_) #[true, true, true, true, true, true, true, true, true, true, false, false, false, false, false, false, false, false, false] rfl rfl (by kernel_rfl) (fun _ _ _ h => h) (Or.inl ⟨by rfl, ?_⟩) ?_ ?_
              rotate_left
              · intro w'
                go_simp
                with_reducible rfl
              rotate_left
              · simp only [Act.put, List.setIfInBounds_toArray, List.set_cons_zero, List.set_cons_succ]
                rfl
              refine pure_ (i := 10) (N := some 25) (v := ?_) (a' := ?_) #[true, true, true, true, true, true, true, true, true, true, true, false, false, false, false, false, false, false, false] rfl rfl (by kernel_rfl) (fun _ _ _ h => h) (Or.inl ⟨by rfl, ?_⟩) ?_ ?_
              rotate_left
              · intro w'
                go_simp
                with_reducible rfl
              rotate_left
              · simp only [Act.put, List.setIfInBounds_toArray, List.set_cons_zero, List.set_cons_succ]
                rfl
              refine pure_ (i := 11) (N := some 26) (v := ?_) (a' := ?_) #[true, true, true, true, true, true, true, true, true, true, true, true, false, false, false, false, false, false, false] rfl rfl (by kernel_rfl) (fun _ _ _ h => h) (Or.inl ⟨by rfl, ?_⟩) ?_ ?_
              rotate_left
              · intro w'
                go_simp
                with_reducible rfl
              rotate_left
              · simp only [Act.put, List.setIfInBounds_toArray, List.set_cons_zero, List.set_cons_succ]
                rfl
              refine pure_ (i := 12) (N := some 27) (v := ?_) (a' := ?_) #[true, true, true, true, true, true, true, true, true, true, true, true, true, false, false, false, false, false, false] rfl rfl (by kernel_rfl) (fun _ _ _ h => h) (Or.inl ⟨by rfl, ?_⟩) ?_ ?_
              rotate_left
              · intro w'
                go_simp
                with_reducible rfl
              rotate_left
              · simp only [Act.put, List.setIfInBounds_toArray, List.set_cons_zero, List.set_cons_succ]
                rfl
              refine pure_ (i := 13) (N := some 28) (v := ?_) (a' := ?_) #[true, true, true, true, true, true, true, true, true, true, true, true, true, true, false, false, false, false, false] rfl rfl (by kernel_rfl) (fun _ _ _ h => h) (Or.inl ⟨by rfl, ?_⟩) ?_ ?_
              rotate_left
              · intro w'
                go_simp
                with_reducible rfl
              rotate_left
              · simp only [Act.put, List.setIfInBounds_toArray, List.set_cons_zero, List.set_cons_succ]
                rfl
              refine pure_ (i := 14) (N := some 29) (v := ?_) (a' := ?_) #[true, true, true, true, true, true, true, true, true, true, true, true, true, true, true, false, false, false, false] rfl rfl (by kernel_rfl) (fun _ _ _ h => h) (Or.inl ⟨by rfl, ?_⟩) ?_ ?_
              rotate_left
              · intro w'
                go_simp
                with_reducible rfl
              rotate_left
              · simp only [Act.put, List.setIfInBounds_toArray, List.set_cons_zero, List.set_cons_succ]
                rfl
              refine take_ (i := 15) (N := some 30) (v := (.string x.f0)) (a' := ?_) #[true, true, true, true, true, true, true, true, true, true, true, true, true, true, true, true, false, false, false] rfl rfl (by kernel_rfl) (fun _ _ _ h => h) (Or.inl ⟨by rfl, ?_⟩) hHeld ?_ ?_
              rotate_left
              rotate_left
              · simp only [Act.put, List.setIfInBounds_toArray, List.set_cons_zero, List.set_cons_succ]
                rfl
              rotate_left
              · rintro w' ⟨⟨s0, s1⟩, s2⟩
                go_simp
              refine one_ (i := 16) (N := some 31) #[true, true, true, true, true, true, true, true, true, true, true, true, true, true, true, true, true, false, false] rfl rfl (by kernel_rfl) (by decide) (fun K hK => ?_)
              refine goes_ Try.func91 (by kernel_rfl) rfl #[.string x.f0] (by rfl) rfl rfl (by first | rfl | (simp only [List.map_toArray, List.map_cons, List.map_nil]; rfl)) ?_
              refine (namedP_calls x.f0 _).mono ?_
              rintro e w3 ⟨gb, rfl, hgb, hh, hb⟩
              have HH := Aside0.mk hh
              refine ⟨_, rfl, hK.out _ _ (held2_step hHeld hb) (fun hHeld => ?_)⟩
              clear hgb hh hb
              clear hK K
              simp only [Act.put, List.setIfInBounds_toArray, List.set_cons_zero, List.set_cons_succ]
              refine one_ (i := 17) (N := some 32) #[true, true, true, true, true, true, true, true, true, true, true, true, true, true, true, true, true, true, false] rfl rfl (by kernel_rfl) (by decide) (fun K hK => ?_)
              refine goes_ Try.func90 (by kernel_rfl) rfl #[.slice (some ad) LT.length c, .func (.func 99) #[] #[.pointer (some ⟨gb, 0, none⟩)]] (by rfl) rfl rfl (by first | rfl | (simp only [List.map_toArray, List.map_cons, List.map_nil]; rfl)) ?_
              refine (HCN.out gb _ hHeld.2 HH.out).mono ?_
              rintro e w4 ⟨rfl, hb⟩
              refine ⟨_, rfl, hK.out _ _ (held2_step hHeld hb) (fun hHeld => ?_)⟩
              clear hb
              clear hK K
              simp only [Act.put, List.setIfInBounds_toArray, List.set_cons_zero, List.set_cons_succ]
              refine pure_ (i := 18) (N := some 33) (v := ?_) (a' := ?_) #[true, true, true, true, true, true, true, true, true, true, true, true, true, true, true, true, true, true, true] rfl rfl (by kernel_rfl) (fun _ _ _ h => h) (Or.inl ⟨by rfl, ?_⟩) ?_ ?_
              rotate_left
              · intro w'
                go_simp
                with_reducible rfl
              rotate_left
              · simp only [Act.put, List.setIfInBounds_toArray, List.set_cons_zero, List.set_cons_succ]
                rfl
              refine done_ (n := 0) (by kernel_rfl) ?_
              go_wp2
              go_roundg k1
              case measure => omega
              case rel =>
                have hi := HHI.out
                refine ⟨i + 1, rfl, ⟨by omega, by omega⟩, ⟨fun j hj => ?_⟩, ⟨hHeld.2⟩⟩
                by_cases hji : j = i.toNat
                · subst hji
                  rw [HPO.out]
                  rfl
                · exact HZ.out j (by omega)
            · rw [b3] at HPO HCN
              clear b1 b3
              go_wp2
              refine start_ (n := 19) (S := fun w' => (w'.cell? ⟨wr.heap.size, 0, none⟩ = some (.string x.f0) ∧ w'.cell? ⟨wr.heap.size, 1, none⟩ = some (.slice A1 x.f1.length c1)) ∧ Below w.heap.size w w') (ds := []) #[false, false, false, false, false, false, false, false, false, false, false, false, false, false, false, false, false, false, false] (by kernel_rfl) rfl rfl (held2_drew wr w _ _ _ HB.out) (fun hHeld => ?_)
              refine pure_ (i := 0) (N := some 15) (v := ?_) (a' := ?_) #[true, false, false, false, false, false, false, false, false, false, false, false, false, false, false, false, false, false, false] rfl rfl (by kernel_rfl) (fun _ _ _ h => h) (Or.inl ⟨by rfl, ?_⟩) ?_ ?_
              rotate_left
              · intro w'
                go_simp
                with_reducible rfl
              rotate_left
              · simp only [Act.put, List.setIfInBounds_toArray, List.set_cons_zero, List.set_cons_succ]
                rfl
              refine take_ (i := 1) (N := some 16) (v := (.string x.f0)) (a' := ?_) #[true, true, false, false, false, false, false, false, false, false, false, false, false, false, false, false, false, false, false] rfl rfl (by kernel_rfl) (fun _ _ _ h => h) (Or.inl ⟨by rfl, ?_⟩) hHeld ?_ ?_
              rotate_left
              rotate_left
              · simp only [Act.put, List.setIfInBounds_toArray, List.set_cons_zero, List.set_cons_succ]
                rfl
              rotate_left
              · rintro w' ⟨⟨s0, s1⟩, s2⟩
                go_simp
              refine one_ (i := 2) (N := some 17) #[true, true, true, false, false, false, false, false, false, false, false, false, false, false, false, false, false, false, false] rfl rfl (by kernel_rfl) (by decide) (fun K hK => ?_)
              refine goes_ Try.func73 (by kernel_rfl) rfl #[.string x.f0] (by rfl) rfl rfl (by first | rfl | (simp only [List.map_toArray, List.map_cons, List.map_nil]; rfl)) ?_
              refine (HNA.out _).mono ?_
              rintro e w2 ⟨rfl, hb⟩
              refine ⟨_, rfl, hK.out _ _ (held2_step hHeld hb) (fun hHeld => ?_)⟩
              clear hb
              clear hK K
              simp only [Act.put, List.setIfInBounds_toArray, List.set_cons_zero, List.set_cons_succ]
              refine pure_ (i := 3) (N := some 18) (v := ?_) (a' := ?_) #[true, true, true, true, false, false, false, false, false, false, false, false, false, false, false, false, false, false, false] rfl rfl (by kernel_rfl) (fun _ _ _ h => h) (Or.inl ⟨by rfl, ?_⟩) ?_ ?_
              rotate_left
              · intro w'
                go_simp
                with_reducible rfl
              rotate_left
              · simp only [Act.put, List.setIfInBounds_toArray, List.set_cons_zero, List.set_cons_succ]
                rfl
              refine pure_ (i := 4) (N := some 19) (v := ?_) (a' := ?_) #[true, true, true, true, true, false, false, false, false, false, false, false, false, false, false, false, false, false, false] rfl rfl (by kernel_rfl) (fun _ _ _ h => h) (Or.inl ⟨by rfl, ?_⟩) ?_ ?_
              rotate_left
              · intro w'
                go_simp
                with_reducible rfl
              rotate_left
              · simp only [Act.put, List.setIfInBounds_toArray, List.set_cons_zero, List.set_cons_succ]
                rfl
              refine pure_ (i := 5) (N := some 20) (v := ?_) (a' := ?_) #[true, true, true, true, true, true, false, false, false, false, false, false, false, false, false, false, false, false, false] rfl rfl (by kernel_rfl) (fun _ _ _ h => h) (Or.inl ⟨by rfl, ?_⟩) ?_ ?_
              rotate_left
              · intro w'
                go_simp
                with_reducible rfl
              rotate_left
              · simp only [Act.put, List.setIfInBounds_toArray, List.set_cons_zero, List.set_cons_succ]
                rfl
              refine take_ (i := 6) (N := some 21) (v := (.slice A1 x.f1.length c1)) (a' := ?_) #[true, true, true, true, true, true, true, false, false, false, false, false, false, false, false, false, false, false, false] rfl rfl (by kernel_rfl) (fun _ _ _ h => h) (Or.inl ⟨by rfl, ?_⟩) hHeld ?_ ?_
              rotate_left
              rotate_left
              · simp only [Act.put, List.setIfInBounds_toArray, List.set_cons_zero, List.set_cons_succ]
                rfl
              rotate_left
              · rintro w' ⟨⟨s0, s1⟩, s2⟩
                go_simp
              refine pure_ (i := 7) (N := some 22) (v := ?_) (a' := ?_) #[true, true, true, true, true, true, true, true, false, false, false, false, false, false, false, false, false, false, false] rfl rfl (by kernel_rfl) (fun _ _ _ h => h) (Or.inl ⟨by rfl, ?_⟩) ?_ ?_
              rotate_left
              · intro w'
                go_simp
                with_reducible rfl
              rotate_left
              · simp only [Act.put, List.setIfInBounds_toArray, List.set_cons_zero, List.set_cons_succ]
                rfl
              refine pure_ (i := 8) (N := some 23) (v := ?_) (a' := ?_) #[true, true, true, true, true, true, true, true, true, false, false, false, false, false, false, false, false, false, false] rfl rfl (by kernel_rfl) (fun _ _ _ h => h) (Or.inl ⟨by rfl, ?_⟩) ?_ ?_
              rotate_left
              · intro w'
                go_simp
                with_reducible rfl
              rotate_left
              · simp only [Act.put, List.setIfInBounds_toArray, List.set_cons_zero, List.set_cons_succ]
                rfl
              refine pure_ (i := 9) (N := some 24) (v := ?_) (a' := ?_) #[true, true, true, true, true, true, true, true, true, true, false, false, false, false, false, false, false, false, false] rfl rfl (by kernel_rfl) (fun _ _ _ h => h) (Or.inl ⟨by rfl, ?_⟩) ?_ ?_
              rotate_left
              · intro w'
                go_simp
                with_reducible rfl
              rotate_left
              · simp only [Act.put, List.setIfInBounds_toArray, List.set_cons_zero, List.set_cons_succ]
                rfl
              refine pure_ (i := 10) (N := some 25) (v := ?_) (a' := ?_) #[true, true, true, true, true, true, true, true, true, true, true, false, false, false, false, false, false, false, false] rfl rfl (by kernel_rfl) (fun _ _ _ h => h) (Or.inl ⟨by rfl, ?_⟩) ?_ ?_
              rotate_left
              · intro w'
                go_simp
                with_reducible rfl
              rotate_left
              · simp only [Act.put, List.setIfInBounds_toArray, List.set_cons_zero, List.set_cons_succ]
                rfl
              refine pure_ (i := 11) (N := some 26) (v := ?_) (a' := ?_) #[true, true, true, true, true, true, true, true, true, true, true, true, false, false, false, false, false, false, false] rfl rfl (by kernel_rfl) (fun _ _ _ h => h) (Or.inl ⟨by rfl, ?_⟩) ?_ ?_
              rotate_left
              · intro w'
                go_simp
                with_reducible rfl
              rotate_left
              · simp only [Act.put, List.setIfInBounds_toArray, List.set_cons_zero, List.set_cons_succ]
                rfl
              refine pure_ (i := 12) (N := some 27) (v := ?_) (a' := ?_) #[true, true, true, true, true, true, true, true, true, true, true, true, true, false, false, false, false, false, false] rfl rfl (by kernel_rfl) (fun _ _ _ h => h) (Or.inl ⟨by rfl, ?_⟩) ?_ ?_
              rotate_left
              · intro w'
                go_simp
                with_reducible rfl
              rotate_left
              · simp only [Act.put, List.setIfInBounds_toArray, List.set_cons_zero, List.set_cons_succ]
                rfl
              refine pure_ (i := 13) (N := some 28) (v := ?_) (a' := ?_) #[true, true, true, true, true, true, true, true, true, true, true, true, true, true, false, false, false, false, false] rfl rfl (by kernel_rfl) (fun _ _ _ h => h) (Or.inl ⟨by rfl, ?_⟩) ?_ ?_
              rotate_left
              · intro w'
                go_simp
                with_reducible rfl
              rotate_left
              · simp only [Act.put, List.setIfInBounds_toArray, List.set_cons_zero, List.set_cons_succ]
                rfl
              refine pure_ (i := 14) (N := some 29) (v := ?_) (a' := ?_) #[true, true, true, true, true, true, true, true, true, true, true, true, true, true, true, false, false, false, false] rfl rfl (by kernel_rfl) (fun _ _ _ h => h) (Or.inl ⟨by rfl, ?_⟩) ?_ ?_
              rotate_left
              · intro w'
                go_simp
                with_reducible rfl
              rotate_left
              · simp only [Act.put, List.setIfInBounds_toArray, List.set_cons_zero, List.set_cons_succ]
                rfl
              refine take_ (i := 15) (N := some 30) (v := (.string x.f0)) (a' := ?_) #[true, true, true, true, true, true, true, true, true, true, true, true, true, true, true, true, false, false, false] rfl rfl (by kernel_rfl) (fun _ _ _ h => h) (Or.inl ⟨by rfl, ?_⟩) hHeld ?_ ?_
              rotate_left
              rotate_left
              · simp only [Act.put, List.setIfInBounds_toArray, List.set_cons_zero, List.set_cons_succ]
                rfl
              rotate_left
              · rintro w' ⟨⟨s0, s1⟩, s2⟩
                go_simp
              refine one_ (i := 16) (N := some 31) #[true, true, true, true, true, true, true, true, true, true, true, true, true, true, true, true, true, false, false] rfl rfl (by kernel_rfl) (by decide) (fun K hK => ?_)
              refine goes_ Try.func91 (by kernel_rfl) rfl #[.string x.f0] (by rfl) rfl rfl (by first | rfl | (simp only [List.map_toArray, List.map_cons, List.map_nil]; rfl)) ?_
              refine (namedP_calls x.f0 _).mono ?_
              rintro e w3 ⟨gb, rfl, hgb, hh, hb⟩
              have HH := Aside0.mk hh
              refine ⟨_, rfl, hK.out _ _ (held2_step hHeld hb) (fun hHeld => ?_)⟩
              clear hgb hh hb
              clear hK K
              simp only [Act.put, List.setIfInBounds_toArray, List.set_cons_zero, List.set_cons_succ]
              refine one_ (i := 17) (N := some 32) #[true, true, true, true, true, true, true, true, true, true, true, true, true, true, true, true, true, true, false] rfl rfl (by kernel_rfl) (by decide) (fun K hK => ?_)
              refine goes_ Try.func90 (by kernel_rfl) rfl #[.slice (some ad) LT.length c, .func (.func 99) #[] #[.pointer (some ⟨gb, 0, none⟩)]] (by rfl) rfl rfl (by first | rfl | (simp only [List.map_toArray, List.map_cons, List.map_nil]; rfl)) ?_
              refine (HCN.out gb _ hHeld.2 HH.out).mono ?_
              rintro e w4 ⟨rfl, hb⟩
              refine ⟨_, rfl, hK.out _ _ (held2_step hHeld hb) (fun hHeld => ?_)⟩
              clear hb
              clear hK K
              simp only [Act.put, List.setIfInBounds_toArray, List.set_cons_zero, List.set_cons_succ]
              refine pure_ (i := 18) (N := some 33) (v := ?_) (a' := ?_) #[true, true, true, true, true, true, true, true, true, true, true, true, true, true, true, true, true, true, true] rfl rfl (by kernel_rfl) (fun _ _ _ h => h) (Or.inl ⟨by rfl, ?_⟩) ?_ ?_
              rotate_left
              · intro w'
                go_simp
                with_reducible rfl
              rotate_left
              · simp only [Act.put, List.setIfInBounds_toArray, List.set_cons_zero, List.set_cons_succ]
                rfl
              refine done_ (n := 0) (by kernel_rfl) ?_
              go_wp2
              go_ret
              have hi := HHI.out
              exact ⟨by rw [HPF.out, range_not _ _ i.toNat (by omega) (by rw [HPO.out]; rfl)]; rfl, hHeld.2⟩
  · have d1 : decide ((16 : Int) < (l.length : Int)) = true := decide_eq_true (by omega)
    have HPF := Aside0.mk (show propsF l = false by unfold propsF; rw [decide_eq_false h16, Bool.false_and])
    clear hC hc hm h16
    go_enter Try.func72, Try.ntmps72
    go_wp2
    go_ret
    exact ⟨by rw [HPF.out]; rfl, Below.refl _ _⟩
end Go.Proofs.Ytfpkakedlapmkaa.Q
end
section
namespace Go.Proofs.Ytfpkakedlapmkaa.Q
open Go.RowKit Go.Proofs.YtfpkakedlapmkaaW.PrintWords Go.Proofs.YtfpkakedlapmkaaW.PrintLast Go.Proofs.YtfpkakedlapmkaaW.PrintMore
set_option linter.unusedVariables false
set_option linter.unusedSimpArgs false

attribute [local go_sem] max2_int min2_int max_two min_two max_three min_three max_four min_four
/-! ### slices_Equal_uint32_uint32: function 95 -/
def slices_Equal_uint32_uint32.l0 : Nat → List Int → List Int → Int → Int → Option (Bool)
  | 0, _, _, _, _ => none
  | k + 1, x0, x1, x12, x13 => if x13 < x12 then (if 0 ≤ x13 then (if x13 < (x0.length : Int) then (if x13 < (x1.length : Int) then (if (rd x0 x13) = (rd x1 x13) then (slices_Equal_uint32_uint32.l0 k x0 x1 x12 (wrap64 (x13 + 1))) else (some false)) else (none)) else (none)) else (none)) else (some true)
def slices_Equal_uint32_uint32.f (k : Nat) (l0 : List Int) (l1 : List Int) : Option (Bool) := if (l0.length : Int) = (l1.length : Int) then (slices_Equal_uint32_uint32.l0 k l0 l1 (l0.length : Int) 0) else (some false)
set_option maxHeartbeats 8000000 in
set_option maxRecDepth 100000 in
theorem slices_Equal_uint32_uint32.calls (k : Nat) (A0 : Option Addr) (c0 : Nat) (l0 : List Int) (A1 : Option Addr) (c1 : Nat) (l1 : List Int) (r : Bool) (w : World) (hr0 : Kd.C (Kd.int .u32) w A0 l0.length l0) (hc0 : l0.length ≤ c0) (hr1 : Kd.C (Kd.int .u32) w A1 l1.length l1) (hc1 : l1.length ≤ c1) (h : slices_Equal_uint32_uint32.f k l0 l1 = some r) :
    Calls Try.prog 95 #[.slice A0 l0.length c0, .slice A1 l1.length c1] w fun e w' => e = .returned (.bool r) ∧ Drawn0 w w' := by
  have HR0 := Aside0.mk hr0
  have HC0 := Aside0.mk hc0
  clear hr0 hc0
  have HR1 := Aside0.mk hr1
  have HC1 := Aside0.mk hc1
  clear hr1 hc1
  have H : (if (l0.length : Int) = (l1.length : Int) then (slices_Equal_uint32_uint32.l0 k l0 l1 (l0.length : Int) 0) else (some false)) = some r := h
  clear h
  by_cases c3 : (l0.length : Int) = (l1.length : Int)
  · rw [if_pos c3] at H
    have c3b0 : ((l0.length : Int) == (l1.length : Int)) = true := beq_iff_eq.mpr c3
    have c3b1 : ((l0.length : Int) != (l1.length : Int)) = false := bne_eq_false_iff_eq.mpr c3
    have c3b2 : (l0.length == l1.length) = true := by first | simpa using c3 | (simp at c3 ⊢; omega)
    clear c3
    have H' := Aside0.mk H
    clear H
    go_enter Try.func95, Try.ntmps95
    go_wp2
    repeat (go_quiet (fail); try go_wp2)
    go_loopg [13] k (fun kq v13 w' => ∃ (x13_1 : Int), v13 = .int .i64 x13_1 ∧ Aside0 (slices_Equal_uint32_uint32.l0 kq l0 l1 (l0.length : Int) x13_1 = some r) ∧ Aside0 (kq ≤ k) ∧ Drawn0 w w')
    case atStart => exact ⟨(0), (by first | rfl | (simp; done) | (simp [*]; done)), H', ⟨Nat.le_refl _⟩, by repeat (first | exact Drawn0.refl _ | apply Drawn0.step)⟩
    case round =>
      clear H'
      try clear c1
      try clear p2
      try clear c3
      try clear c3b0
      try clear c3b1
      try clear c3b2
      obtain ⟨x13_1, rfl, HA, HK1, ⟨m1, rfl⟩⟩ := hrel
      cases gk with
      | zero => exact absurd HA.out (by simp [slices_Equal_uint32_uint32.l0])
      | succ k1 =>
        have H := HA.out
        clear HA
        simp only [slices_Equal_uint32_uint32.l0] at H
        by_cases c4 : x13_1 < (l0.length : Int)
        · rw [if_pos c4] at H
          have c4b0 : decide (x13_1 < (l0.length : Int)) = true := decide_eq_true c4
          clear c4
          by_cases c5 : 0 ≤ x13_1
          · rw [if_pos c5] at H
            have c5b0 : decide (0 ≤ x13_1) = true := decide_eq_true c5
            clear c5
            by_cases c6 : x13_1 < (l0.length : Int)
            · rw [if_pos c6] at H
              have c6b0 : decide (x13_1 < (l0.length : Int)) = true := decide_eq_true c6
              clear c6
              by_cases c7 : x13_1 < (l1.length : Int)
              · rw [if_pos c7] at H
                have c7b0 : decide (x13_1 < (l1.length : Int)) = true := decide_eq_true c7
                clear c7
                by_cases c8 : (rd l0 x13_1) = (rd l1 x13_1)
                · rw [if_pos c8] at H
                  have c8b0 : ((rd l0 x13_1) == (rd l1 x13_1)) = true := beq_iff_eq.mpr c8
                  have c8b1 : ((rd l0 x13_1) != (rd l1 x13_1)) = false := bne_eq_false_iff_eq.mpr c8
                  clear c8
                  have H' := Aside0.mk H
                  clear H
                  have p96001 : 0 ≤ (x13_1 : Int) := of_decide_eq_true (by first | (with_reducible assumption) | assumption)
                  have q96001 : x13_1 < (l0.length : Int) := of_decide_eq_true (by first | (with_reducible assumption) | assumption)
                  obtain ⟨ad96001, e96001, hx96001_0⟩ := Kd.at_int HR0.out x13_1 p96001 q96001
                  cases e96001
                  replace p96001 := eq_true p96001
                  replace q96001 := eq_true q96001
                  have p96002 : 0 ≤ (x13_1 : Int) := of_decide_eq_true (by first | (with_reducible assumption) | assumption)
                  have q96002 : x13_1 < (l1.length : Int) := of_decide_eq_true (by first | (with_reducible assumption) | assumption)
                  obtain ⟨ad96002, e96002, hx96002_0⟩ := Kd.at_int HR1.out x13_1 p96002 q96002
                  cases e96002
                  replace p96002 := eq_true p96002
                  replace q96002 := eq_true q96002
                  go_wp2
                  repeat (go_quiet (fail); try go_wp2)
                  go_roundg k1
                  case measure => have := HK1.out; omega
                  case rel => exact ⟨(wrap64 (x13_1 + 1)), (by first | rfl | (simp; done) | (simp [*]; done)), H', ⟨by have := HK1.out; omega⟩, by repeat (first | exact Drawn0.refl _ | apply Drawn0.step)⟩
                · rw [if_neg c8] at H
                  have c8b0 : ((rd l0 x13_1) == (rd l1 x13_1)) = false := beq_eq_false_iff_ne.mpr c8
                  have c8b1 : ((rd l0 x13_1) != (rd l1 x13_1)) = true := bne_iff_ne.mpr c8
                  obtain rfl := Option.some.inj H
                  have p96001 : 0 ≤ (x13_1 : Int) := of_decide_eq_true (by first | (with_reducible assumption) | assumption)
                  have q96001 : x13_1 < (l0.length : Int) := of_decide_eq_true (by first | (with_reducible assumption) | assumption)
                  obtain ⟨ad96001, e96001, hx96001_0⟩ := Kd.at_int HR0.out x13_1 p96001 q96001
                  cases e96001
                  replace p96001 := eq_true p96001
                  replace q96001 := eq_true q96001
                  have p96002 : 0 ≤ (x13_1 : Int) := of_decide_eq_true (by first | (with_reducible assumption) | assumption)
                  have q96002 : x13_1 < (l1.length : Int) := of_decide_eq_true (by first | (with_reducible assumption) | assumption)
                  obtain ⟨ad96002, e96002, hx96002_0⟩ := Kd.at_int HR1.out x13_1 p96002 q96002
                  cases e96002
                  replace p96002 := eq_true p96002
                  replace q96002 := eq_true q96002
                  go_wp2
                  repeat (go_quiet (fail); try go_wp2)
                  go_ret
                  exact ⟨by first | rfl | (simp; done) | (simp [*]; done), by repeat (first | exact Drawn0.refl _ | apply Drawn0.step)⟩
              · rw [if_neg c7] at H
                exact absurd H (by simp)
            · rw [if_neg c6] at H
              exact absurd H (by simp)
          · rw [if_neg c5] at H
            exact absurd H (by simp)
        · rw [if_neg c4] at H
          have c4b0 : decide (x13_1 < (l0.length : Int)) = false := decide_eq_false c4
          clear c4
          obtain rfl := Option.some.inj H
          go_wp2
          repeat (go_quiet (fail); try go_wp2)
          go_ret
          exact ⟨by first | rfl | (simp; done) | (simp [*]; done), by repeat (first | exact Drawn0.refl _ | apply Drawn0.step)⟩
  · rw [if_neg c3] at H
    have c3b0 : ((l0.length : Int) == (l1.length : Int)) = false := beq_eq_false_iff_ne.mpr c3
    have c3b1 : ((l0.length : Int) != (l1.length : Int)) = true := bne_iff_ne.mpr c3
    have c3b2 : (l0.length == l1.length) = false := by first | simpa using c3 | (simp at c3 ⊢; omega)
    obtain rfl := Option.some.inj H
    go_enter Try.func95, Try.ntmps95
    go_wp2
    repeat (go_quiet (fail); try go_wp2)
    go_ret
    exact ⟨by first | rfl | (simp; done) | (simp [*]; done), by repeat (first | exact Drawn0.refl _ | apply Drawn0.step)⟩

/-- THE ONE PURE STATEMENT of slices_Equal_uint32_uint32: yours. -/
def slices_Equal_uint32_uint32.Pure : Prop := ∀ (l0 : List Int) (l1 : List Int), l0.length ≤ maxLen → l0.length * 4 ≤ 140737488351232 → (∀ x ∈ l0, (Lit.int .u32 x).wf = true) → l1.length ≤ maxLen → l1.length * 4 ≤ 140737488351232 → (∀ x ∈ l1, (Lit.int .u32 x).wf = true) → ∃ k, slices_Equal_uint32_uint32.f k l0 l1 = some true

end Go.Proofs.Ytfpkakedlapmkaa.Q
end
section
set_option linter.unusedSimpArgs false
set_option linter.unusedVariables false
namespace Go.Proofs.Ytfpkakedlapmkaa.Q
open Go.RowKit Go.Proofs.YtfpkakedlapmkaaW.PrintWords Go.Proofs.YtfpkakedlapmkaaW.PrintLast Go.Proofs.YtfpkakedlapmkaaW.PrintMore
attribute [local go_sem] max2_int min2_int max_two min_two max_three min_three max_four min_four
theorem int_drop (l : List Int) (i : Int) (h0 : 0 ≤ i) (h1 : i < l.length) : l.drop i.toNat = rd l i :: l.drop (i + 1).toNat := by
  rw [List.drop_eq_getElem_cons (show i.toNat < l.length by omega), show (i + 1).toNat = i.toNat + 1 by omega]
  simp [rd, List.getD_eq_getElem?_getD, List.getElem?_eq_getElem (show i.toNat < l.length by omega)]
theorem equal_go (a b : List Int) (hl : a.length = b.length) (hm : a.length ≤ 9223372036854775807) : ∀ (d k : Nat) (i : Int), 0 ≤ i → i + d = a.length → d < k → slices_Equal_uint32_uint32.l0 k a b a.length i = some (decide (a.drop i.toNat = b.drop i.toNat))
  | 0, k, i, h0, h1, hk => by
    obtain ⟨k, rfl⟩ : ∃ m, k = m + 1 := ⟨k - 1, by omega⟩
    rw [slices_Equal_uint32_uint32.l0, if_neg (by omega), List.drop_eq_nil_of_le (by omega), List.drop_eq_nil_of_le (by omega), decide_eq_true rfl]
  | d + 1, k, i, h0, h1, hk => by
    obtain ⟨k, rfl⟩ : ∃ m, k = m + 1 := ⟨k - 1, by omega⟩
    have hw : wrap64 (i + 1) = i + 1 := by unfold wrap64; omega
    rw [slices_Equal_uint32_uint32.l0, if_pos (by omega), if_pos h0, if_pos (by omega), if_pos (by omega), hw, equal_go a b hl hm d k (i + 1) (by omega) (by omega) (by omega), int_drop a i h0 (by omega), int_drop b i h0 (by omega)]
    by_cases he : rd a i = rd b i
    · rw [if_pos he]
      congr 1
      refine decide_eq_decide.2 ⟨fun h => by rw [he, h], fun h => (List.cons.inj h).2⟩
    · rw [if_neg he, decide_eq_false (fun h => he (List.cons.inj h).1)]
theorem equal_eq (a b : List Int) (hm : a.length ≤ 9223372036854775807) (k : Nat) (hk : a.length < k) : slices_Equal_uint32_uint32.f k a b = some (decide (a = b)) := by
  unfold slices_Equal_uint32_uint32.f
  by_cases hl : a.length = b.length
  · rw [if_pos (by omega), equal_go a b hl hm a.length k 0 (Int.le_refl _) (by omega) hk]
    rfl
  · rw [if_neg (by omega), decide_eq_false (fun h => hl (by rw [h]))]
/-- Has a device that parent, name and address? -/
def isN (p : Int) (s : ByteArray) (u : List Int) (x : S91) : Bool := (x.f2 == p) && ((x.f0.toList == s.toList) && decide (x.f1 = u))
theorem is_calls (p : Int) (s : ByteArray) (AU : Option Addr) (lu cu : Nat) (w : World) :
    Calls Try.prog 75 #[.int .i64 p, .string s, .slice AU lu cu] w fun e w' => ∃ g1 g2 g3, e = .returned (.func (.func 94) #[] #[.pointer (some ⟨g1, 0, none⟩), .pointer (some ⟨g2, 0, none⟩), .pointer (some ⟨g3, 0, none⟩)]) ∧ (w.heap.size ≤ g1 ∧ w.heap.size ≤ g2 ∧ w.heap.size ≤ g3) ∧ w'.heap[g1]? = some (.cells #[.int .i64 p] 3 (0, 0)) ∧ w'.heap[g2]? = some (.cells #[.string s] 9 (0, 0)) ∧ w'.heap[g3]? = some (.cells #[.slice AU lu cu] 24 (0, 0)) ∧ Below w.heap.size w w' := by
  have HB0 := Aside0.mk (Below.refl w.heap.size w)
  go_enter Try.func75, Try.ntmps75
  go_wp2_with (first
    | ((with_reducible refine gate_dst (N := 3) rfl ?_); refine box_event ?hg (N := 3) ?hd (cs := #[.int .i64 p]) (t := 3) ?hr ?_; (case hd => rfl); (case hg => rfl); (case hr => first | (go_simp; done) | (go_simp; rfl)); intro g1 hg1 w1 hbox hb; have K1 := Aside0.mk hbox; have B1 := Aside0.mk hb; have G1 := Aside0.mk (show w.heap.size ≤ g1 from hg1 ▸ Nat.le_refl _); clear hbox hb hg1)
    | ((with_reducible refine gate_dst (N := 4) rfl ?_); refine box_event ?hg (N := 4) ?hd (cs := #[.string s]) (t := 9) ?hr ?_; (case hd => rfl); (case hg => rfl); (case hr => first | (go_simp; done) | (go_simp; rfl)); intro g2 hg2 w2 hbox hb; have K2 := Aside0.mk hbox; have L1 := Aside0.mk ((hb.block g1 (blk_lt K1.out)).trans K1.out); have B2 := Aside0.mk (below_step B1.out hb); have G2 := Aside0.mk (show w.heap.size ≤ g2 from hg2 ▸ B1.out.size); clear hbox hb hg2)
    | ((with_reducible refine gate_dst (N := 5) rfl ?_); refine box_event ?hg (N := 5) ?hd (cs := #[.slice AU lu cu]) (t := 24) ?hr ?_; (case hd => rfl); (case hg => rfl); (case hr => first | (go_simp; done) | (go_simp; rfl)); intro g3 hg3 w3 hbox hb; have K3 := Aside0.mk hbox; have M1 := Aside0.mk ((hb.block g1 (blk_lt L1.out)).trans L1.out); have M2 := Aside0.mk ((hb.block g2 (blk_lt K2.out)).trans K2.out); have B3 := Aside0.mk (below_step B2.out hb); have G3 := Aside0.mk (show w.heap.size ≤ g3 from hg3 ▸ B2.out.size); clear hbox hb hg3))
  go_ret
  exact ⟨g1, g2, g3, rfl, ⟨G1.out, G2.out, G3.out⟩, M1.out, M2.out, K3.out, B3.out⟩
set_option maxHeartbeats 2000000 in
theorem isC_calls (x : S91) (A1 : Option Addr) (c1 : Nat) (A3 : Option Addr) (c3 : Nat) (A4 : Option Addr) (c4 : Nat) (p : Int) (s : ByteArray) (u : List Int) (AU : Option Addr) (cu : Nat) (g1 g2 g3 : Nat) (w : World) (h1 : w.heap[g1]? = some (.cells #[.int .i64 p] 3 (0, 0))) (h2 : w.heap[g2]? = some (.cells #[.string s] 9 (0, 0))) (h3 : w.heap[g3]? = some (.cells #[.slice AU u.length cu] 24 (0, 0)))
    (hx : Kd.C (Kd.int .u32) w A1 x.f1.length x.f1) (hxc : x.f1.length ≤ c1) (hu : Kd.C (Kd.int .u32) w AU u.length u) (huc : u.length ≤ cu) :
    Calls Try.prog 94 #[.agg #[.string x.f0, .slice A1 x.f1.length c1, .int .i64 x.f2, .slice A3 x.f3.length c3, .slice A4 x.f4.length c4], .pointer (some ⟨g1, 0, none⟩), .pointer (some ⟨g2, 0, none⟩), .pointer (some ⟨g3, 0, none⟩)] w fun e w' => e = .returned (.bool (isN p s u x)) ∧ Below w.heap.size w w' := by
  have hu91 := Try.underlying91
  have hm := Kd.C_max hx
  have hEq := fun (W : World) (hb : Below w.heap.size w W) => slices_Equal_uint32_uint32.calls 9223372036854775808 A1 c1 x.f1 AU cu u (decide (x.f1 = u)) W (Kd.C_below hx hb) hxc (Kd.C_below hu hb) huc (equal_eq x.f1 u (by omega) _ (by omega))
  have HEQ := Aside0.mk hEq
  have HL := Aside0.mk (⟨blk_lt h1, blk_lt h2, blk_lt h3⟩ : g1 < w.heap.size ∧ g2 < w.heap.size ∧ g3 < w.heap.size)
  have H1 := Aside0.mk h1
  have H2 := Aside0.mk h2
  have H3 := Aside0.mk h3
  have HI := Aside0.mk (show isN p s u x = ((x.f2 == p) && ((x.f0.toList == s.toList) && decide (x.f1 = u))) from rfl)
  clear h1 h2 h3 hx hxc hu huc hm hEq
  cases b1 : (x.f2 == p) <;> cases b2 : (x.f0.toList == s.toList)
  all_goals (
    rw [b1, b2] at HI
    go_enter Try.func94, Try.ntmps94
    go_wp2_with (first
      | ((with_reducible refine gate_dst (N := 4) rfl ?_); refine box_event ?hg (N := 4) ?hd (cs := #[.string x.f0, .slice A1 x.f1.length c1, .int .i64 x.f2, .slice A3 x.f3.length c3, .slice A4 x.f4.length c4]) (t := 91) ?hr ?_; (case hd => rfl); (case hg => rfl); (case hr => first | (go_simp; done) | (go_simp; rfl)); intro ga hga w1 hbox hb; have BK := Aside0.mk hbox; have hz0 := (blk_cell BK.out 0).trans rfl; have hz1 := (blk_cell BK.out 1).trans rfl; have hz2 := (blk_cell BK.out 2).trans rfl; have hf0 := blk_frozen BK.out 0; have hf1 := blk_frozen BK.out 1; have hf2 := blk_frozen BK.out 2; have hy1 : w1.cell? ⟨g1, 0, none⟩ = some (.int .i64 p) := (hb.cell (p := ⟨g1, 0, none⟩) HL.out.1).trans ((blk_cell H1.out 0).trans rfl); have hy2 : w1.cell? ⟨g2, 0, none⟩ = some (.string s) := (hb.cell (p := ⟨g2, 0, none⟩) HL.out.2.1).trans ((blk_cell H2.out 0).trans rfl); have hy3 : w1.cell? ⟨g3, 0, none⟩ = some (.slice AU u.length cu) := (hb.cell (p := ⟨g3, 0, none⟩) HL.out.2.2).trans ((blk_cell H3.out 0).trans rfl); have HB := Aside0.mk hb; clear hbox hb hga)
      | (go_at_call 95; (with_reducible refine (HEQ.out _ HB.out).mono ?_); rintro e w2 ⟨rfl, hd⟩; obtain ⟨n, rfl⟩ := hd.out; clear hd))
    go_ret
    exact ⟨by rw [HI.out]; rfl, by first | exact HB.out | exact pw_below_drewN HB.out _⟩)
set_option maxHeartbeats 2000000 in
set_option maxRecDepth 100000 in
theorem indexNode_calls (p : Int) (s : ByteArray) (u : List Int) (AU : Option Addr) (cu : Nat) (g1 g2 g3 : Nat) (A : Option Addr) (c : Nat) (l : List S91) (w : World) (hC : Kd.C k91 w A l.length l) (h1 : w.heap[g1]? = some (.cells #[.int .i64 p] 3 (0, 0))) (h2 : w.heap[g2]? = some (.cells #[.string s] 9 (0, 0))) (h3 : w.heap[g3]? = some (.cells #[.slice AU u.length cu] 24 (0, 0))) (hu : Kd.C (Kd.int .u32) w AU u.length u) (huc : u.length ≤ cu) :
    Calls Try.prog 93 #[.slice A l.length c, .func (.func 94) #[] #[.pointer (some ⟨g1, 0, none⟩), .pointer (some ⟨g2, 0, none⟩), .pointer (some ⟨g3, 0, none⟩)]] w fun e w' => e = .returned (.int .i64 (idxP (isN p s u) l)) ∧ Below w.heap.size w w' := by
  have hu91 := Try.underlying91
  have t1 := blk_lt h1
  have t2 := blk_lt h2
  have t3 := blk_lt h3
  have HC := Aside0.mk hC
  have HF := Aside0.mk (fun (x : S91) (A1 : Option Addr) (c1 : Nat) (A3 : Option Addr) (c3 : Nat) (A4 : Option Addr) (c4 : Nat) (W : World) (hb : Below w.heap.size w W) (hx : Kd.C (Kd.int .u32) W A1 x.f1.length x.f1) (hxc : x.f1.length ≤ c1) => isC_calls x A1 c1 A3 c3 A4 c4 p s u AU cu g1 g2 g3 W (by rw [hb.block g1 t1]; exact h1) (by rw [hb.block g2 t2]; exact h2) (by rw [hb.block g3 t3]; exact h3) hx hxc (Kd.C_below hu hb) huc)
  clear hC h1 h2 h3 hu huc
  go_enter Try.func93, Try.ntmps93
  go_wp2
  go_loopg [8] l.length (fun kq v8 w' => ∃ i : Int, v8 = .int .i64 i ∧ Aside0 (0 ≤ i ∧ i + kq = l.length) ∧ Aside0 (∀ j : Nat, j < i.toNat → (isN p s u) (l.getD j z91) = false) ∧ Aside0 (Below w.heap.size w w'))
  case atStart => exact ⟨0, rfl, ⟨by omega, by omega⟩, ⟨fun j hj => absurd hj (by simp)⟩, ⟨Below.refl _ _⟩⟩
  case round =>
    obtain ⟨i, rfl, HI, HZ, HB⟩ := hrel
    cases gk with
    | zero =>
      have hlt : decide (i < (l.length : Int)) = false := decide_eq_false (by have := HI.out; omega)
      go_wp2
      go_ret
      have hz := HZ.out
      have hi := HI.out
      refine ⟨?_, HB.out⟩
      rw [idxP_drop (isN p s u) z91 l i.toNat hz, List.drop_eq_nil_of_le (by omega)]
      rfl
    | succ k1 =>
      have hi := HI.out
      have hm := Kd.C_max HC.out
      have hlt : decide (i < (l.length : Int)) = true := decide_eq_true (by omega)
      have p1 : (0 ≤ i) = True := eq_true (by omega)
      have p2 : (i < (l.length : Int)) = True := eq_true (by omega)
      obtain ⟨ad, A1, c1, A3, c3, A4, c4, eA, hx0, hx1, hx2, hx3, hx4, hl1, hg1, hl3, hg3, hl4, hg4⟩ := at_T91 (Kd.C_below HC.out HB.out) i (by omega) (by omega)
      cases eA
      have HGD := Aside0.mk (show rd_T91 l i = l.getD i.toNat z91 from rfl)
      have HIN := Aside0.mk (show (isN p s u) (rd_T91 l i) = true → idxP (isN p s u) l = i from fun h => by
        rw [idxP_here (isN p s u) z91 l i.toNat HZ.out (by omega) h]
        omega)
      have hwr : IntKind.i64.wrap (i + 1) = i + 1 := (i64_w _).trans (by unfold wrap64; omega)
      have hwr2 : wrap64 (i + 1) = i + 1 := by unfold wrap64; omega
      have HG1 := Aside0.mk hg1; have HL1 := Aside0.mk hl1; clear hl1 hg1 hl3 hg3 hl4 hg4
      clear hi hm
      obtain ⟨b, hb0⟩ : ∃ b, b = (isN p s u) (rd_T91 l i) := ⟨_, rfl⟩
      have HBP := Aside0.mk hb0
      cases b with
      | true =>
        clear hb0
        go_wp2_with (first
          | (go_at_call 94; (with_reducible refine (HF.out (rd_T91 l i) A1 c1 A3 c3 A4 c4 _ HB.out HG1.out HL1.out).mono ?_); rintro e w2 ⟨rfl, hb⟩; rw [← HBP.out]; have HB2 := Aside0.mk (below_step HB.out hb); clear hb))
        go_ret
        exact ⟨by rw [HIN.out HBP.out.symm]; rfl, HB2.out⟩
      | false =>
        clear hb0
        go_wp2_with (first
          | (go_at_call 94; (with_reducible refine (HF.out (rd_T91 l i) A1 c1 A3 c3 A4 c4 _ HB.out HG1.out HL1.out).mono ?_); rintro e w2 ⟨rfl, hb⟩; rw [← HBP.out]; have HB2 := Aside0.mk (below_step HB.out hb); clear hb))
        go_roundg k1
        case measure => omega
        case rel =>
          have hi := HI.out
          refine ⟨i + 1, rfl, ⟨by omega, by omega⟩, ⟨fun j hj => ?_⟩, HB2⟩
          by_cases hji : j = i.toNat
          · subst hji
            rw [← HGD.out]
            exact HBP.out.symm
          · exact HZ.out j (by omega)
theorem containsNode_calls (p : Int) (s : ByteArray) (u : List Int) (AU : Option Addr) (cu : Nat) (g1 g2 g3 : Nat) (A : Option Addr) (c : Nat) (l : List S91) (w : World) (hC : Kd.C k91 w A l.length l) (h1 : w.heap[g1]? = some (.cells #[.int .i64 p] 3 (0, 0))) (h2 : w.heap[g2]? = some (.cells #[.string s] 9 (0, 0))) (h3 : w.heap[g3]? = some (.cells #[.slice AU u.length cu] 24 (0, 0))) (hu : Kd.C (Kd.int .u32) w AU u.length u) (huc : u.length ≤ cu) :
    Calls Try.prog 74 #[.slice A l.length c, .func (.func 94) #[] #[.pointer (some ⟨g1, 0, none⟩), .pointer (some ⟨g2, 0, none⟩), .pointer (some ⟨g3, 0, none⟩)]] w fun e w' => e = .returned (.bool (l.any (isN p s u))) ∧ Below w.heap.size w w' := by
  have HIX := Aside0.mk (indexNode_calls p s u AU cu g1 g2 g3 A c l w hC h1 h2 h3 hu huc)
  have HAN := Aside0.mk (idxP_any (isN p s u) l)
  clear hC h1 h2 h3 hu huc
  go_enter Try.func74, Try.ntmps74
  go_wp2_with (go_at_call 93; refine HIX.out.mono ?_; rintro e w1 ⟨rfl, hb⟩; have HB := Aside0.mk hb; clear hb)
  go_ret
  exact ⟨by rw [← HAN.out]; rfl, HB.out⟩
end Go.Proofs.Ytfpkakedlapmkaa.Q
end
section
set_option linter.unusedSimpArgs false
set_option linter.unusedVariables false
namespace Go.Proofs.Ytfpkakedlapmkaa.Q
open Go.RowKit Go.Proofs.YtfpkakedlapmkaaW.PrintWords Go.Proofs.YtfpkakedlapmkaaW.PrintLast Go.Proofs.YtfpkakedlapmkaaW.PrintMore
attribute [local go_sem] max2_int min2_int max_two min_two max_three min_three max_four min_four
def rootOk (x : S91) : Bool := (x.f0.toList == ([] : List UInt8)) && (((x.f1.length : Int) == 0) && (x.f2 == -1))
def kidOk (T : List S91) (i : Int) (x : S91) : Bool := namedF x.f0 && (!decide (4 < (x.f1.length : Int)) && (!decide (x.f2 < 0) && (!decide (i ≤ x.f2) && !T.any (isN x.f2 x.f0 x.f1))))
def nodeOk (t : List S91) (i : Nat) : Bool := (!decide (16 < ((t.getD i z91).f4.length : Int)) && propsF (t.getD i z91).f3) && (if (i : Int) == 0 then rootOk (t.getD i z91) else kidOk (t.take i) i (t.getD i z91))
def treeF (t : List S91) : Bool := !((t.length : Int) == 0) && (!decide (32 < (t.length : Int)) && (List.range t.length).all (nodeOk t))
theorem info91s : (Try.prog.info? 91).map (·.size) = some 5 := by kernel_rfl
theorem box_new5 (wr : World) (a b c d e : Value) (t : Nat) : (wr.alloc (.cells #[a, b, c, d, e] t)).heap[wr.heap.size]? = some (.cells #[a, b, c, d, e] t (0, 0)) := heap_alloc_new wr _
theorem held3_start {g : Nat} {a b c d e : Value} {t : Nat} {w W : World} (hh : W.heap[g]? = some (.cells #[a, b, c, d, e] t (0, 0))) (hb : Below w.heap.size w W) : ((W.drew.cell? ⟨g, 0, none⟩ = some a ∧ W.drew.cell? ⟨g, 1, none⟩ = some b ∧ W.drew.cell? ⟨g, 2, none⟩ = some c) ∧ Below w.heap.size w W.drew) :=
  ⟨⟨blk_cell hh 0, blk_cell hh 1, blk_cell hh 2⟩, below_drew1 hb⟩
theorem held3_step {g : Nat} {a b c : Value} {w W w2 : World} (h : (W.cell? ⟨g, 0, none⟩ = some a ∧ W.cell? ⟨g, 1, none⟩ = some b ∧ W.cell? ⟨g, 2, none⟩ = some c) ∧ Below w.heap.size w W) (hb : Below W.heap.size W w2) : (w2.cell? ⟨g, 0, none⟩ = some a ∧ w2.cell? ⟨g, 1, none⟩ = some b ∧ w2.cell? ⟨g, 2, none⟩ = some c) ∧ Below w.heap.size w w2 :=
  ⟨⟨(hb.cell (World.block_lt_of_cell? _ _ h.1.1)).trans h.1.1, (hb.cell (World.block_lt_of_cell? _ _ h.1.2.1)).trans h.1.2.1, (hb.cell (World.block_lt_of_cell? _ _ h.1.2.2)).trans h.1.2.2⟩, below_step h.2 hb⟩
set_option maxHeartbeats 16000000 in
set_option maxRecDepth 100000 in
theorem treeFormed_calls (A : Option Addr) (c : Nat) (l : List S91) (w : World) (hC : Kd.C k91 w A l.length l) (hc : l.length ≤ c) :
    Calls Try.prog 44 #[.slice A l.length c] w fun e w' => e = .returned (.bool (treeF l)) ∧ Below w.heap.size w w' := by
  have hu91 := Try.underlying91
  have hm := Kd.C_max hC
  cases h0 : ((l.length : Int) == 0)
  · cases h32 : decide (32 < (l.length : Int))
    · have HPF := Aside0.mk (show treeF l = (List.range l.length).all (nodeOk l) by unfold treeF; rw [h0, h32]; rfl)
      have HC := Aside0.mk hC
      have HCC := Aside0.mk hc
      have H32 := Aside0.mk (of_decide_eq_false h32)
      have HNM := Aside0.mk (fun (s : ByteArray) (W : World) => prop_Named.calls 400 s (namedF s) W (named_eq 400 (by decide) s))
      have HPR := Aside0.mk (fun (A : Option Addr) (c : Nat) (l : List S106) (W : World) (hC : Kd.C k106 W A l.length l) (hc : l.length ≤ c) => propsFormed_calls A c l W hC hc)
      have HB0 := Aside0.mk (Below.refl w.heap.size w)
      have mixed : Try.prog.follows Departure.mixedOrders = true := by kernel_rfl
      clear hC hc hm
      go_enter Try.func44, Try.ntmps44
      go_wp2
      go_loopg [15] l.length (fun kq v8 w' => ∃ i : Int, v8 = .int .i64 i ∧ Aside0 (0 ≤ i ∧ i + kq = l.length) ∧ Aside0 (∀ j : Nat, j < i.toNat → nodeOk l j = true) ∧ Aside0 (Below w.heap.size w w'))
      case atStart => exact ⟨0, rfl, ⟨by omega, by omega⟩, ⟨fun j hj => absurd hj (by simp)⟩, ⟨Below.refl _ _⟩⟩
      case round =>
        obtain ⟨i, rfl, HI, HZ, HB⟩ := hrel
        cases gk with
        | zero =>
          have hlt : decide (i < (l.length : Int)) = false := decide_eq_false (by have := HI.out; omega)
          go_wp2
          go_ret
          have hz := HZ.out
          have hi := HI.out
          exact ⟨by rw [HPF.out, range_all _ _ (fun j hj => hz j (by omega))]; rfl, HB.out⟩
        | succ k1 =>
          have hi := HI.out
          have hlt : decide (i < (l.length : Int)) = true := decide_eq_true (by omega)
          have p1 : (0 ≤ i) = True := eq_true (by omega)
          have p2 : (i < (l.length : Int)) = True := eq_true (by omega)
          obtain ⟨ad, A1, c1, A3, c3, A4, c4, eA, hx0, hx1, hx2, hx3, hx4, hl1, hg1, hl3, hg3, hl4, hg4⟩ := at_T91 (Kd.C_below HC.out HB.out) i (by omega) (by omega)
          cases eA
          have hwr : IntKind.i64.wrap (i + 1) = i + 1 := (i64_w _).trans (by unfold wrap64; have := H32.out; omega)
          have hwr2 : wrap64 (i + 1) = i + 1 := by unfold wrap64; have := H32.out; omega
          have hcut := run_cut_hi (P := Try.prog) Try.underlying29 info91s (some ad) l.length c i (by omega) (by have := HCC.out; omega)
          have HTK := Aside0.mk (fun (W : World) (hb : Below w.heap.size w W) => (Kd.C_take (Kd.C_below HC.out hb) (by omega) : Kd.C k91 W (some ad) (l.take i.toNat).length (l.take i.toNat)))
          have HTL := Aside0.mk (show (l.take i.toNat).length = i.toNat by rw [List.length_take]; omega)
          have HPO := Aside0.mk (show nodeOk l i.toNat = ((!decide (16 < ((rd_T91 l i).f4.length : Int)) && propsF (rd_T91 l i).f3) && (if i == 0 then rootOk (rd_T91 l i) else kidOk (l.take i.toNat) i (rd_T91 l i))) by
            have e : ((i.toNat : Nat) : Int) = i := by omega
            unfold nodeOk
            rw [e]
            rfl)
          have HG1 := Aside0.mk hg1
          have HL1 := Aside0.mk hl1
          have HPX := Aside0.mk (fun (W : World) (hb : Below wr.heap.size wr W) => HPR.out A3 c3 (rd_T91 l i).f3 W (Kd.C_below hg3 hb) hl3)
          generalize rd_T91 l i = x at *
          rw [← HTL.out] at hcut
          have HHI := Aside0.mk hi
          have HCN := Aside0.mk (fun (g1 g2 g3 : Nat) (W : World) (hb : Below w.heap.size w W) (hbr : Below wr.heap.size wr W) (h1 : W.heap[g1]? = some (.cells #[.int .i64 x.f2] 3 (0, 0))) (h2 : W.heap[g2]? = some (.cells #[.string x.f0] 9 (0, 0))) (h3 : W.heap[g3]? = some (.cells #[.slice A1 x.f1.length c1] 24 (0, 0))) => containsNode_calls x.f2 x.f0 x.f1 A1 c1 g1 g2 g3 (some ad) c (l.take i.toNat) W (HTK.out W hb) h1 h2 h3 (Kd.C_below HG1.out hbr) HL1.out)
          have HNA := Aside0.mk (fun W : World => HNM.out x.f0 W)
          have HBXN := Aside0.mk (box_new5 wr (.string x.f0) (.slice A1 x.f1.length c1) (.int .i64 x.f2) (.slice A3 x.f3.length c3) (.slice A4 x.f4.length c4) 91)
          have HBW := Aside0.mk (below_alloc (Below.refl wr.heap.size wr) (.cells #[.string x.f0, .slice A1 x.f1.length c1, .int .i64 x.f2, .slice A3 x.f3.length c3, .slice A4 x.f4.length c4] 91 (0, 0)))
          generalize l.take i.toNat = LT at *
          clear hi hl1 hg1 hl3 hg3 hl4 hg4
          cases e0 : decide (16 < (x.f4.length : Int))
          · cases b1 : propsF x.f3
            · rw [e0, b1] at HPO
              rw [b1] at HPX
              go_wp2_with (first
                | (go_at_call 72; (with_reducible refine (HPX.out _ HBW.out).mono ?_); rintro e w2 ⟨rfl, hb⟩; have HBX := Aside0.mk ((hb.block wr.heap.size (blk_lt HBXN.out)).trans HBXN.out); have HB2 := Aside0.mk (below_step HBW.out hb); have hz0 := (blk_cell HBX.out 0).trans rfl; have hz1 := (blk_cell HBX.out 1).trans rfl; have hz2 := (blk_cell HBX.out 2).trans rfl; clear hb))
              go_ret
              have hi := HHI.out
              exact ⟨by rw [HPF.out, range_not _ _ i.toNat (by omega) (by rw [HPO.out]; rfl)]; rfl, below_step HB.out HB2.out⟩
            · rw [b1] at HPX
              cases e1 : (i == 0)
              · rw [e0, b1, e1] at HPO
                have HKO := Aside0.mk (show kidOk LT i x = (namedF x.f0 && (!decide (4 < (x.f1.length : Int)) && (!decide (x.f2 < 0) && (!decide (i ≤ x.f2) && !LT.any (isN x.f2 x.f0 x.f1))))) from rfl)
                clear b1
                cases b2 : namedF x.f0
                · rw [b2] at HKO HNA
                  clear b2
                  go_wp2_with (first
                    | (go_at_call 72; (with_reducible refine (HPX.out _ HBW.out).mono ?_); rintro e w2 ⟨rfl, hb⟩; have HBX := Aside0.mk ((hb.block wr.heap.size (blk_lt HBXN.out)).trans HBXN.out); have HB2 := Aside0.mk (below_step HBW.out hb); have hz0 := (blk_cell HBX.out 0).trans rfl; have hz1 := (blk_cell HBX.out 1).trans rfl; have hz2 := (blk_cell HBX.out 2).trans rfl; clear hb)
                    | (go_at_call 73; (with_reducible refine (HNA.out _).mono ?_); rintro e w3 ⟨rfl, hb⟩; clear hz0 hz1 hz2; have HBX3 := Aside0.mk ((hb.block wr.heap.size (blk_lt HBX.out)).trans HBX.out); have HB3 := Aside0.mk (below_step HB2.out hb); have hz0 := (blk_cell HBX3.out 0).trans rfl; have hz1 := (blk_cell HBX3.out 1).trans rfl; have hz2 := (blk_cell HBX3.out 2).trans rfl; clear hb))
                  go_ret
                  have hi := HHI.out
                  exact ⟨by rw [HPF.out, range_not _ _ i.toNat (by omega) (by rw [HPO.out, HKO.out]; rfl)]; rfl, below_step HB.out HB3.out⟩
                · rw [b2] at HKO HNA
                  clear b2
                  cases e4 : decide (4 < (x.f1.length : Int))
                  · rw [e4] at HKO
                    cases e5 : decide (x.f2 < 0)
                    · rw [e5] at HKO
                      cases e6 : decide (i ≤ x.f2)
                      · rw [e6] at HKO
                        cases b3 : LT.any (isN x.f2 x.f0 x.f1)
                        · rw [b3] at HKO HCN
                          clear b3
                          go_wp2_with (first
                            | (go_at_call 72; (with_reducible refine (HPX.out _ HBW.out).mono ?_); rintro e w2 ⟨rfl, hb⟩; have HBX := Aside0.mk ((hb.block wr.heap.size (blk_lt HBXN.out)).trans HBXN.out); have HB2 := Aside0.mk (below_step HBW.out hb); have hz0 := (blk_cell HBX.out 0).trans rfl; have hz1 := (blk_cell HBX.out 1).trans rfl; have hz2 := (blk_cell HBX.out 2).trans rfl; clear hb)
                            | (go_at_call 73; (with_reducible refine (HNA.out _).mono ?_); rintro e w3 ⟨rfl, hb⟩; clear hz0 hz1 hz2; have HBX3 := Aside0.mk ((hb.block wr.heap.size (blk_lt HBX.out)).trans HBX.out); have HB3 := Aside0.mk (below_step HB2.out hb); have hz0 := (blk_cell HBX3.out 0).trans rfl; have hz1 := (blk_cell HBX3.out 1).trans rfl; have hz2 := (blk_cell HBX3.out 2).trans rfl; clear hb))
                          refine start_ (n := 12) (S := fun w' => (w'.cell? ⟨wr.heap.size, 0, none⟩ = some (.string x.f0) ∧ w'.cell? ⟨wr.heap.size, 1, none⟩ = some (.slice A1 x.f1.length c1) ∧ w'.cell? ⟨wr.heap.size, 2, none⟩ = some (.int .i64 x.f2)) ∧ Below wr.heap.size wr w') (ds := []) #[false, false, false, false, false, false, false, false, false, false, false, false] (by kernel_rfl) rfl rfl (held3_start HBX3.out HB3.out) (fun hHeld => ?_)
                          refine pure_ (i := 0) (N := some 71) (v := ?_) (a' := ?_) #[true, false, false, false, false, false, false, false, false, false, false, false] rfl rfl (by kernel_rfl) (fun _ _ _ h => h) (Or.inl ⟨by rfl, ?_⟩) ?_ ?_
                          rotate_left
                          · intro w'
                            go_simp
                            with_reducible rfl
                          rotate_left
                          · simp only [Act.put, List.setIfInBounds_toArray, List.set_cons_zero, List.set_cons_succ]
                            rfl
                          refine pure_ (i := 1) (N := some 72) (v := ?_) (a' := ?_) #[true, true, false, false, false, false, false, false, false, false, false, false] rfl rfl (by kernel_rfl) (fun _ _ _ h => h) (Or.inl ⟨by rfl, ?_⟩) ?_ ?_
                          rotate_left
                          · intro w'
                            go_simp
                            with_reducible rfl
                          rotate_left
                          · simp only [Act.put, List.setIfInBounds_toArray, List.set_cons_zero, List.set_cons_succ]
                            rfl
                          refine pure_ (i := 2) (N := some 73) (v := ?_) (a' := ?_) #[true, true, true, false, false, false, false, false, false, false, false, false] rfl rfl (by kernel_rfl) (fun _ _ _ h => h) (Or.inl ⟨by rfl, ?_⟩) ?_ ?_
                          rotate_left
                          · intro w'
                            go_simp
                            with_reducible rfl
                          rotate_left
                          · simp only [Act.put, List.setIfInBounds_toArray, List.set_cons_zero, List.set_cons_succ]
                            rfl
                          refine pure_ (i := 3) (N := some 74) (v := ?_) (a' := ?_) #[true, true, true, true, false, false, false, false, false, false, false, false] rfl rfl (by kernel_rfl) (fun _ _ _ h => h) (Or.inl ⟨by rfl, ?_⟩) ?_ ?_
                          rotate_left
                          · intro w'
                            go_simp
                            with_reducible rfl
                          rotate_left
                          · simp only [Act.put, List.setIfInBounds_toArray, List.set_cons_zero, List.set_cons_succ]
                            rfl
                          refine take_ (i := 4) (N := some 75) (v := (.int .i64 x.f2)) (a' := ?_) #[true, true, true, true, true, false, false, false, false, false, false, false] rfl rfl (by kernel_rfl) (fun _ _ _ h => h) (Or.inl ⟨by rfl, ?_⟩) hHeld ?_ ?_
                          rotate_left
                          rotate_left
                          · simp only [Act.put, List.setIfInBounds_toArray, List.set_cons_zero, List.set_cons_succ]
                            rfl
                          rotate_left
                          · rintro w' ⟨⟨s0, s1, s2⟩, s3⟩
                            go_simp
                          refine pure_ (i := 5) (N := some 76) (v := ?_) (a' := ?_) #[true, true, true, true, true, true, false, false, false, false, false, false] rfl rfl (by kernel_rfl) (fun _ _ _ h => h) (Or.inl ⟨by rfl, ?_⟩) ?_ ?_
                          rotate_left
                          · intro w'
                            go_simp
                            with_reducible rfl
                          rotate_left
                          · simp only [Act.put, List.setIfInBounds_toArray, List.set_cons_zero, List.set_cons_succ]
                            rfl
                          refine take_ (i := 6) (N := some 77) (v := (.string x.f0)) (a' := ?_) #[true, true, true, true, true, true, true, false, false, false, false, false] rfl rfl (by kernel_rfl) (fun _ _ _ h => h) (Or.inl ⟨by rfl, ?_⟩) hHeld ?_ ?_
                          rotate_left
                          rotate_left
                          · simp only [Act.put, List.setIfInBounds_toArray, List.set_cons_zero, List.set_cons_succ]
                            rfl
                          rotate_left
                          · rintro w' ⟨⟨s0, s1, s2⟩, s3⟩
                            go_simp
                          refine pure_ (i := 7) (N := some 78) (v := ?_) (a' := ?_) #[true, true, true, true, true, true, true, true, false, false, false, false] rfl rfl (by kernel_rfl) (fun _ _ _ h => h) (Or.inl ⟨by rfl, ?_⟩) ?_ ?_
                          rotate_left
                          · intro w'
                            go_simp
                            with_reducible rfl
                          rotate_left
                          · simp only [Act.put, List.setIfInBounds_toArray, List.set_cons_zero, List.set_cons_succ]
                            rfl
                          refine take_ (i := 8) (N := some 79) (v := (.slice A1 x.f1.length c1)) (a' := ?_) #[true, true, true, true, true, true, true, true, true, false, false, false] rfl rfl (by kernel_rfl) (fun _ _ _ h => h) (Or.inl ⟨by rfl, ?_⟩) hHeld ?_ ?_
                          rotate_left
                          rotate_left
                          · simp only [Act.put, List.setIfInBounds_toArray, List.set_cons_zero, List.set_cons_succ]
                            rfl
                          rotate_left
                          · rintro w' ⟨⟨s0, s1, s2⟩, s3⟩
                            go_simp
                          refine one_ (i := 9) (N := some 80) #[true, true, true, true, true, true, true, true, true, true, false, false] rfl rfl (by kernel_rfl) (by decide) (fun K hK => ?_)
                          refine goes_ Try.func75 (by kernel_rfl) rfl #[.int .i64 x.f2, .string x.f0, .slice A1 x.f1.length c1] (by rfl) rfl rfl (by first | rfl | (simp only [List.map_toArray, List.map_cons, List.map_nil]; rfl)) ?_
                          refine (is_calls x.f2 x.f0 A1 x.f1.length c1 _).mono ?_
                          rintro e w4 ⟨g1, g2, g3, rfl, hgs, h1, h2, h3, hb⟩
                          have H1 := Aside0.mk h1
                          have H2 := Aside0.mk h2
                          have H3 := Aside0.mk h3
                          refine ⟨_, rfl, hK.out _ _ (held3_step hHeld hb) (fun hHeld => ?_)⟩
                          clear hgs h1 h2 h3 hb
                          clear hK K
                          simp only [Act.put, List.setIfInBounds_toArray, List.set_cons_zero, List.set_cons_succ]
                          refine one_ (i := 10) (N := some 81) #[true, true, true, true, true, true, true, true, true, true, true, false] rfl rfl (by kernel_rfl) (by decide) (fun K hK => ?_)
                          refine goes_ Try.func74 (by kernel_rfl) rfl #[.slice (some ad) LT.length c, .func (.func 94) #[] #[.pointer (some ⟨g1, 0, none⟩), .pointer (some ⟨g2, 0, none⟩), .pointer (some ⟨g3, 0, none⟩)]] (by rfl) rfl rfl (by first | rfl | (simp only [List.map_toArray, List.map_cons, List.map_nil]; rfl)) ?_
                          refine (HCN.out g1 g2 g3 _ (below_step HB.out hHeld.2) hHeld.2 H1.out H2.out H3.out).mono ?_
                          rintro e w5 ⟨rfl, hb⟩
                          refine ⟨_, rfl, hK.out _ _ (held3_step hHeld hb) (fun hHeld => ?_)⟩
                          clear hb
                          clear hK K
                          simp only [Act.put, List.setIfInBounds_toArray, List.set_cons_zero, List.set_cons_succ]
                          refine pure_ (i := 11) (N := some 70) (v := ?_) (a' := ?_) #[true, true, true, true, true, true, true, true, true, true, true, true] rfl rfl (by kernel_rfl) (fun _ _ _ h => h) (Or.inl ⟨by rfl, ?_⟩) ?_ ?_
                          rotate_left
                          · intro w'
                            go_simp
                            with_reducible rfl
                          rotate_left
                          · simp only [Act.put, List.setIfInBounds_toArray, List.set_cons_zero, List.set_cons_succ]
                            rfl
                          refine done_ (n := 0) (by kernel_rfl) ?_
                          go_wp2
                          go_roundg k1
                          case measure => omega
                          case rel =>
                            have hi := HHI.out
                            refine ⟨i + 1, rfl, ⟨by omega, by omega⟩, ⟨fun j hj => ?_⟩, ⟨below_step HB.out hHeld.2⟩⟩
                            by_cases hji : j = i.toNat
                            · subst hji
                              rw [HPO.out, HKO.out]
                              rfl
                            · exact HZ.out j (by omega)
                        · rw [b3] at HKO HCN
                          clear b3
                          go_wp2_with (first
                            | (go_at_call 72; (with_reducible refine (HPX.out _ HBW.out).mono ?_); rintro e w2 ⟨rfl, hb⟩; have HBX := Aside0.mk ((hb.block wr.heap.size (blk_lt HBXN.out)).trans HBXN.out); have HB2 := Aside0.mk (below_step HBW.out hb); have hz0 := (blk_cell HBX.out 0).trans rfl; have hz1 := (blk_cell HBX.out 1).trans rfl; have hz2 := (blk_cell HBX.out 2).trans rfl; clear hb)
                            | (go_at_call 73; (with_reducible refine (HNA.out _).mono ?_); rintro e w3 ⟨rfl, hb⟩; clear hz0 hz1 hz2; have HBX3 := Aside0.mk ((hb.block wr.heap.size (blk_lt HBX.out)).trans HBX.out); have HB3 := Aside0.mk (below_step HB2.out hb); have hz0 := (blk_cell HBX3.out 0).trans rfl; have hz1 := (blk_cell HBX3.out 1).trans rfl; have hz2 := (blk_cell HBX3.out 2).trans rfl; clear hb))
                          refine start_ (n := 12) (S := fun w' => (w'.cell? ⟨wr.heap.size, 0, none⟩ = some (.string x.f0) ∧ w'.cell? ⟨wr.heap.size, 1, none⟩ = some (.slice A1 x.f1.length c1) ∧ w'.cell? ⟨wr.heap.size, 2, none⟩ = some (.int .i64 x.f2)) ∧ Below wr.heap.size wr w') (ds := []) #[false, false, false, false, false, false, false, false, false, false, false, false] (by kernel_rfl) rfl rfl (held3_start HBX3.out HB3.out) (fun hHeld => ?_)
                          refine pure_ (i := 0) (N := some 71) (v := ?_) (a' := ?_) #[true, false, false, false, false, false, false, false, false, false, false, false] rfl rfl (by kernel_rfl) (fun _ _ _ h => h) (Or.inl ⟨by rfl, ?_⟩) ?_ ?_
                          rotate_left
                          · intro w'
                            go_simp
                            with_reducible rfl
                          rotate_left
                          · simp only [Act.put, List.setIfInBounds_toArray, List.set_cons_zero, List.set_cons_succ]
                            rfl
                          refine pure_ (i := 1) (N := some 72) (v := ?_) (a' := ?_) #[true, true, false, false, false, false, false, false, false, false, false, false] rfl rfl (by kernel_rfl) (fun _ _ _ h => h) (Or.inl ⟨by rfl, ?_⟩) ?_ ?_
                          rotate_left
                          · intro w'
                            go_simp
                            with_reducible rfl
                          rotate_left
                          · simp only [Act.put, List.setIfInBounds_toArray, List.set_cons_zero, List.set_cons_succ]
                            rfl
                          refine pure_ (i := 2) (N := some 73) (v := ?_) (a' := ?_) #[true, true, true, false, false, false, false, false, false, false, false, false] rfl rfl (by kernel_rfl) (fun _ _ _ h => h) (Or.inl ⟨by rfl, ?_⟩) ?_ ?_
                          rotate_left
                          · intro w'
                            go_simp
                            with_reducible rfl
                          rotate_left
                          · simp only [Act.put, List.setIfInBounds_toArray, List.set_cons_zero, List.set_cons_succ]
                            rfl
                          refine pure_ (i := 3) (N := some 74) (v := ?_) (a' := ?_) #[true, true, true, true, false, false, false, false, false, false, false, false] rfl rfl (by kernel_rfl) (fun _ _ _ h => h) (Or.inl ⟨by rfl, ?_⟩) ?_ ?_
                          rotate_left
                          · intro w'
                            go_simp
                            with_reducible rfl
                          rotate_left
                          · simp only [Act.put, List.setIfInBounds_toArray, List.set_cons_zero, List.set_cons_succ]
                            rfl
                          refine take_ (i := 4) (N := some 75) (v := (.int .i64 x.f2)) (a' := ?_) #[true, true, true, true, true, false, false, false, false, false, false, false] rfl rfl (by kernel_rfl) (fun _ _ _ h => h) (Or.inl ⟨by rfl, ?_⟩) hHeld ?_ ?_
                          rotate_left
                          rotate_left
                          · simp only [Act.put, List.setIfInBounds_toArray, List.set_cons_zero, List.set_cons_succ]
                            rfl
                          rotate_left
                          · rintro w' ⟨⟨s0, s1, s2⟩, s3⟩
                            go_simp
                          refine pure_ (i := 5) (N := some 76) (v := ?_) (a' := ?_) #[true, true, true, true, true, true, false, false, false, false, false, false] rfl rfl (by kernel_rfl) (fun _ _ _ h => h) (Or.inl ⟨by rfl, ?_⟩) ?_ ?_
                          rotate_left
                          · intro w'
                            go_simp
                            with_reducible rfl
                          rotate_left
                          · simp only [Act.put, List.setIfInBounds_toArray, List.set_cons_zero, List.set_cons_succ]
                            rfl
                          refine take_ (i := 6) (N := some 77) (v := (.string x.f0)) (a' := ?_) #[true, true, true, true, true, true, true, false, false, false, false, false] rfl rfl (by kernel_rfl) (fun _ _ _ h => h) (Or.inl ⟨by rfl, ?_⟩) hHeld ?_ ?_
                          rotate_left
                          rotate_left
                          · simp only [Act.put, List.setIfInBounds_toArray, List.set_cons_zero, List.set_cons_succ]
                            rfl
                          rotate_left
                          · rintro w' ⟨⟨s0, s1, s2⟩, s3⟩
                            go_simp
                          refine pure_ (i := 7) (N := some 78) (v := ?_) (a' := ?_) #[true, true, true, true, true, true, true, true, false, false, false, false] rfl rfl (by kernel_rfl) (fun _ _ _ h => h) (Or.inl ⟨by rfl, ?_⟩) ?_ ?_
                          rotate_left
                          · intro w'
                            go_simp
                            with_reducible rfl
                          rotate_left
                          · simp only [Act.put, List.setIfInBounds_toArray, List.set_cons_zero, List.set_cons_succ]
                            rfl
                          refine take_ (i := 8) (N := some 79) (v := (.slice A1 x.f1.length c1)) (a' := ?_) #[true, true, true, true, true, true, true, true, true, false, false, false] rfl rfl (by kernel_rfl) (fun _ _ _ h => h) (Or.inl ⟨by rfl, ?_⟩) hHeld ?_ ?_
                          rotate_left
                          rotate_left
                          · simp only [Act.put, List.setIfInBounds_toArray, List.set_cons_zero, List.set_cons_succ]
                            rfl
                          rotate_left
                          · rintro w' ⟨⟨s0, s1, s2⟩, s3⟩
                            go_simp
                          refine one_ (i := 9) (N := some 80) #[true, true, true, true, true, true, true, true, true, true, false, false] rfl rfl (by kernel_rfl) (by decide) (fun K hK => ?_)
                          refine goes_ Try.func75 (by kernel_rfl) rfl #[.int .i64 x.f2, .string x.f0, .slice A1 x.f1.length c1] (by rfl) rfl rfl (by first | rfl | (simp only [List.map_toArray, List.map_cons, List.map_nil]; rfl)) ?_
                          refine (is_calls x.f2 x.f0 A1 x.f1.length c1 _).mono ?_
                          rintro e w4 ⟨g1, g2, g3, rfl, hgs, h1, h2, h3, hb⟩
                          have H1 := Aside0.mk h1
                          have H2 := Aside0.mk h2
                          have H3 := Aside0.mk h3
                          refine ⟨_, rfl, hK.out _ _ (held3_step hHeld hb) (fun hHeld => ?_)⟩
                          clear hgs h1 h2 h3 hb
                          clear hK K
                          simp only [Act.put, List.setIfInBounds_toArray, List.set_cons_zero, List.set_cons_succ]
                          refine one_ (i := 10) (N := some 81) #[true, true, true, true, true, true, true, true, true, true, true, false] rfl rfl (by kernel_rfl) (by decide) (fun K hK => ?_)
                          refine goes_ Try.func74 (by kernel_rfl) rfl #[.slice (some ad) LT.length c, .func (.func 94) #[] #[.pointer (some ⟨g1, 0, none⟩), .pointer (some ⟨g2, 0, none⟩), .pointer (some ⟨g3, 0, none⟩)]] (by rfl) rfl rfl (by first | rfl | (simp only [List.map_toArray, List.map_cons, List.map_nil]; rfl)) ?_
                          refine (HCN.out g1 g2 g3 _ (below_step HB.out hHeld.2) hHeld.2 H1.out H2.out H3.out).mono ?_
                          rintro e w5 ⟨rfl, hb⟩
                          refine ⟨_, rfl, hK.out _ _ (held3_step hHeld hb) (fun hHeld => ?_)⟩
                          clear hb
                          clear hK K
                          simp only [Act.put, List.setIfInBounds_toArray, List.set_cons_zero, List.set_cons_succ]
                          refine pure_ (i := 11) (N := some 70) (v := ?_) (a' := ?_) #[true, true, true, true, true, true, true, true, true, true, true, true] rfl rfl (by kernel_rfl) (fun _ _ _ h => h) (Or.inl ⟨by rfl, ?_⟩) ?_ ?_
                          rotate_left
                          · intro w'
                            go_simp
                            with_reducible rfl
                          rotate_left
                          · simp only [Act.put, List.setIfInBounds_toArray, List.set_cons_zero, List.set_cons_succ]
                            rfl
                          refine done_ (n := 0) (by kernel_rfl) ?_
                          go_wp2
                          go_ret
                          have hi := HHI.out
                          exact ⟨by rw [HPF.out, range_not _ _ i.toNat (by omega) (by rw [HPO.out, HKO.out]; rfl)]; rfl, below_step HB.out hHeld.2⟩
                      · rw [e6] at HKO
                        go_wp2_with (first
                          | (go_at_call 72; (with_reducible refine (HPX.out _ HBW.out).mono ?_); rintro e w2 ⟨rfl, hb⟩; have HBX := Aside0.mk ((hb.block wr.heap.size (blk_lt HBXN.out)).trans HBXN.out); have HB2 := Aside0.mk (below_step HBW.out hb); have hz0 := (blk_cell HBX.out 0).trans rfl; have hz1 := (blk_cell HBX.out 1).trans rfl; have hz2 := (blk_cell HBX.out 2).trans rfl; clear hb)
                          | (go_at_call 73; (with_reducible refine (HNA.out _).mono ?_); rintro e w3 ⟨rfl, hb⟩; clear hz0 hz1 hz2; have HBX3 := Aside0.mk ((hb.block wr.heap.size (blk_lt HBX.out)).trans HBX.out); have HB3 := Aside0.mk (below_step HB2.out hb); have hz0 := (blk_cell HBX3.out 0).trans rfl; have hz1 := (blk_cell HBX3.out 1).trans rfl; have hz2 := (blk_cell HBX3.out 2).trans rfl; clear hb))
                        go_ret
                        have hi := HHI.out
                        exact ⟨by rw [HPF.out, range_not _ _ i.toNat (by omega) (by rw [HPO.out, HKO.out]; rfl)]; rfl, below_step HB.out HB3.out⟩
                    · rw [e5] at HKO
                      go_wp2_with (first
                        | (go_at_call 72; (with_reducible refine (HPX.out _ HBW.out).mono ?_); rintro e w2 ⟨rfl, hb⟩; have HBX := Aside0.mk ((hb.block wr.heap.size (blk_lt HBXN.out)).trans HBXN.out); have HB2 := Aside0.mk (below_step HBW.out hb); have hz0 := (blk_cell HBX.out 0).trans rfl; have hz1 := (blk_cell HBX.out 1).trans rfl; have hz2 := (blk_cell HBX.out 2).trans rfl; clear hb)
                        | (go_at_call 73; (with_reducible refine (HNA.out _).mono ?_); rintro e w3 ⟨rfl, hb⟩; clear hz0 hz1 hz2; have HBX3 := Aside0.mk ((hb.block wr.heap.size (blk_lt HBX.out)).trans HBX.out); have HB3 := Aside0.mk (below_step HB2.out hb); have hz0 := (blk_cell HBX3.out 0).trans rfl; have hz1 := (blk_cell HBX3.out 1).trans rfl; have hz2 := (blk_cell HBX3.out 2).trans rfl; clear hb))
                      go_ret
                      have hi := HHI.out
                      exact ⟨by rw [HPF.out, range_not _ _ i.toNat (by omega) (by rw [HPO.out, HKO.out]; rfl)]; rfl, below_step HB.out HB3.out⟩
                  · rw [e4] at HKO
                    go_wp2_with (first
                      | (go_at_call 72; (with_reducible refine (HPX.out _ HBW.out).mono ?_); rintro e w2 ⟨rfl, hb⟩; have HBX := Aside0.mk ((hb.block wr.heap.size (blk_lt HBXN.out)).trans HBXN.out); have HB2 := Aside0.mk (below_step HBW.out hb); have hz0 := (blk_cell HBX.out 0).trans rfl; have hz1 := (blk_cell HBX.out 1).trans rfl; have hz2 := (blk_cell HBX.out 2).trans rfl; clear hb)
                      | (go_at_call 73; (with_reducible refine (HNA.out _).mono ?_); rintro e w3 ⟨rfl, hb⟩; clear hz0 hz1 hz2; have HBX3 := Aside0.mk ((hb.block wr.heap.size (blk_lt HBX.out)).trans HBX.out); have HB3 := Aside0.mk (below_step HB2.out hb); have hz0 := (blk_cell HBX3.out 0).trans rfl; have hz1 := (blk_cell HBX3.out 1).trans rfl; have hz2 := (blk_cell HBX3.out 2).trans rfl; clear hb))
                    go_ret
                    have hi := HHI.out
                    exact ⟨by rw [HPF.out, range_not _ _ i.toNat (by omega) (by rw [HPO.out, HKO.out]; rfl)]; rfl, below_step HB.out HB3.out⟩
              · rw [e0, b1, e1] at HPO
                have HRO := Aside0.mk (show rootOk x = ((x.f0.toList == ([] : List UInt8)) && (((x.f1.length : Int) == 0) && (x.f2 == -1))) from rfl)
                clear b1
                cases n0 : (x.f0.toList == ([] : List UInt8))
                · rw [n0] at HRO
                  have n0' : (x.f0.toList != ([] : List UInt8)) = true := by rw [bne, n0]; rfl
                  go_wp2_with (first
                    | (go_at_call 72; (with_reducible refine (HPX.out _ HBW.out).mono ?_); rintro e w2 ⟨rfl, hb⟩; have HBX := Aside0.mk ((hb.block wr.heap.size (blk_lt HBXN.out)).trans HBXN.out); have HB2 := Aside0.mk (below_step HBW.out hb); have hz0 := (blk_cell HBX.out 0).trans rfl; have hz1 := (blk_cell HBX.out 1).trans rfl; have hz2 := (blk_cell HBX.out 2).trans rfl; clear hb))
                  go_ret
                  have hi := HHI.out
                  exact ⟨by rw [HPF.out, range_not _ _ i.toNat (by omega) (by rw [HPO.out, HRO.out]; rfl)]; rfl, below_step HB.out HB2.out⟩
                · have n0' : (x.f0.toList != ([] : List UInt8)) = false := by rw [bne, n0]; rfl
                  cases u0 : ((x.f1.length : Int) == 0)
                  · rw [n0, u0] at HRO
                    have u0' : ((x.f1.length : Int) != 0) = true := by rw [bne, u0]; rfl
                    go_wp2_with (first
                      | (go_at_call 72; (with_reducible refine (HPX.out _ HBW.out).mono ?_); rintro e w2 ⟨rfl, hb⟩; have HBX := Aside0.mk ((hb.block wr.heap.size (blk_lt HBXN.out)).trans HBXN.out); have HB2 := Aside0.mk (below_step HBW.out hb); have hz0 := (blk_cell HBX.out 0).trans rfl; have hz1 := (blk_cell HBX.out 1).trans rfl; have hz2 := (blk_cell HBX.out 2).trans rfl; clear hb))
                    go_ret
                    have hi := HHI.out
                    exact ⟨by rw [HPF.out, range_not _ _ i.toNat (by omega) (by rw [HPO.out, HRO.out]; rfl)]; rfl, below_step HB.out HB2.out⟩
                  · have u0' : ((x.f1.length : Int) != 0) = false := by rw [bne, u0]; rfl
                    cases p0 : (x.f2 == -1)
                    · rw [n0, u0, p0] at HRO
                      have p0' : (x.f2 != -1) = true := by rw [bne, p0]; rfl
                      go_wp2_with (first
                        | (go_at_call 72; (with_reducible refine (HPX.out _ HBW.out).mono ?_); rintro e w2 ⟨rfl, hb⟩; have HBX := Aside0.mk ((hb.block wr.heap.size (blk_lt HBXN.out)).trans HBXN.out); have HB2 := Aside0.mk (below_step HBW.out hb); have hz0 := (blk_cell HBX.out 0).trans rfl; have hz1 := (blk_cell HBX.out 1).trans rfl; have hz2 := (blk_cell HBX.out 2).trans rfl; clear hb))
                      go_ret
                      have hi := HHI.out
                      exact ⟨by rw [HPF.out, range_not _ _ i.toNat (by omega) (by rw [HPO.out, HRO.out]; rfl)]; rfl, below_step HB.out HB2.out⟩
                    · rw [n0, u0, p0] at HRO
                      have p0' : (x.f2 != -1) = false := by rw [bne, p0]; rfl
                      go_wp2_with (first
                        | (go_at_call 72; (with_reducible refine (HPX.out _ HBW.out).mono ?_); rintro e w2 ⟨rfl, hb⟩; have HBX := Aside0.mk ((hb.block wr.heap.size (blk_lt HBXN.out)).trans HBXN.out); have HB2 := Aside0.mk (below_step HBW.out hb); have hz0 := (blk_cell HBX.out 0).trans rfl; have hz1 := (blk_cell HBX.out 1).trans rfl; have hz2 := (blk_cell HBX.out 2).trans rfl; clear hb))
                      go_roundg k1
                      case measure => omega
                      case rel =>
                        have hi := HHI.out
                        refine ⟨i + 1, rfl, ⟨by omega, by omega⟩, ⟨fun j hj => ?_⟩, ⟨below_step HB.out HB2.out⟩⟩
                        by_cases hji : j = i.toNat
                        · subst hji
                          rw [HPO.out, HRO.out]
                          rfl
                        · exact HZ.out j (by omega)
          · rw [e0] at HPO
            go_wp2
            go_ret
            have hi := HHI.out
            exact ⟨by rw [HPF.out, range_not _ _ i.toNat (by omega) (by rw [HPO.out]; rfl)]; rfl, below_step HB.out (by first | exact HBW.out | exact HB2.out)⟩
    · have HPF := Aside0.mk (show treeF l = false by unfold treeF; rw [h0, h32]; rfl)
      clear hC hc hm
      go_enter Try.func44, Try.ntmps44
      go_wp2
      go_ret
      exact ⟨by rw [HPF.out]; rfl, Below.refl _ _⟩
  · have HPF := Aside0.mk (show treeF l = false by unfold treeF; rw [h0]; rfl)
    clear hC hc hm
    go_enter Try.func44, Try.ntmps44
    go_wp2
    go_ret
    exact ⟨by rw [HPF.out]; rfl, Below.refl _ _⟩
end Go.Proofs.Ytfpkakedlapmkaa.Q
end
section
set_option linter.unusedVariables false
namespace Go.Proofs.Ytfpkakedlapmkaa.Q
open Go.RowKit Go.Proofs.YtfpkakedlapmkaaW.PrintWords Go.Proofs.YtfpkakedlapmkaaW.PrintLast
def tree_Formed.f (l0 : List S91) : Option Bool := some (treeF l0)
/-- Lists short enough for a copy to be made. -/
def shortP (x : S106) : Bool := decide (x.f1.length < 140737488355328)
def shortN (x : S91) : Bool := decide (x.f1.length * 4 < 140737488355328) && (decide (x.f4.length * 4 < 140737488355328) && (decide (x.f3.length * 40 < 140737488355328) && x.f3.all shortP))
def shortT (l : List S91) : Bool := decide (l.length * 96 < 140737488355328) && l.all shortN
theorem shortN_G {x : S91} (h : shortN x = true) : G91 x := by
  simp only [shortN, Bool.and_eq_true, decide_eq_true_eq, List.all_eq_true] at h
  exact ⟨h.1, h.2.1, h.2.2.1, fun p hp => by
    have := h.2.2.2 p hp
    simp only [shortP, decide_eq_true_eq] at this
    show p.f1.length * 1 < _
    omega⟩
def tree_Copy.f (l0 : List S91) : Option (List S91) := if shortT l0 = true then some l0 else none
def slices_Clone_uint32_uint32.f (l0 : List Int) : Option (List Int) := if l0.length * 4 < 140737488355328 then some l0 else none
def slices_Clone_byte_byte.f (l0 : List Int) : Option (List Int) := if l0.length < 140737488355328 then some l0 else none
end Go.Proofs.Ytfpkakedlapmkaa.Q
end
section
set_option linter.unusedSimpArgs false
set_option linter.unusedVariables false
namespace Go.Proofs.Ytfpkakedlapmkaa.Q
open Go.RowKit Go.Proofs.YtfpkakedlapmkaaW.PrintWords Go.Proofs.YtfpkakedlapmkaaW.PrintLast
theorem rd82_mem (t : List S82) (i : Int) (h0 : 0 ≤ i) (h1 : i < t.length) : rd_T82 t i ∈ t := by
  unfold rd_T82
  rw [List.getD_eq_getElem?_getD, List.getElem?_eq_getElem (show i.toNat < t.length by omega)]
  exact List.getElem_mem _
theorem alls_at {α : Type} (P : α → Bool) (z : α) (l : List α) (i : Int) (h0 : 0 ≤ i) (h1 : i < l.length) : (l.drop i.toNat).all P = (P (l.getD i.toNat z) && (l.drop (i + 1).toNat).all P) := by
  rw [List.drop_eq_getElem_cons (show i.toNat < l.length by omega), show (i + 1).toNat = i.toNat + 1 by omega, List.all_cons]
  simp [List.getD_eq_getElem?_getD, List.getElem?_eq_getElem (show i.toNat < l.length by omega)]
def endsN : Nat → List S82 → Int → Bool
  | 0, _, _ => false
  | d + 1, l, n => (n == -1) || endsN d l (rd_T82 l n).f1
def okPar (l : List S82) : Prop := ∀ x ∈ l, -1 ≤ x.f1 ∧ x.f1 < (l.length : Int)
theorem ends_go (l : List S82) (hl : l.length ≤ 1000) (hp : okPar l) : ∀ (d k : Nat) (n i : Int), -1 ≤ n → n < l.length → 0 ≤ i → i + d = l.length + 1 → d < k → dict_ends.l0 k l n ((l.length : Int) + 1) i = some (endsN d l n)
  | 0, k, n, i, hn0, hn1, h0, h1, hk => by
    obtain ⟨k, rfl⟩ : ∃ m, k = m + 1 := ⟨k - 1, by omega⟩
    rw [dict_ends.l0, if_neg (by omega)]
    rfl
  | d + 1, k, n, i, hn0, hn1, h0, h1, hk => by
    obtain ⟨k, rfl⟩ : ∃ m, k = m + 1 := ⟨k - 1, by omega⟩
    have hw : wrap64 (i + 1) = i + 1 := by unfold wrap64; omega
    rw [dict_ends.l0, if_pos (by omega), endsN]
    by_cases e : n = -1
    · rw [if_pos e, e]; rfl
    · have hm := hp _ (rd82_mem l n (by omega) hn1)
      rw [if_neg e, if_pos (by omega), if_pos hn1, hw, ends_go l hl hp d k _ (i + 1) hm.1 hm.2 (by omega) (by omega) (by omega), beq_eq_false_iff_ne.2 e, Bool.false_or]
theorem ends_eq (l : List S82) (hl : l.length ≤ 1000) (hp : okPar l) (n : Int) (h0 : -1 ≤ n) (h1 : n < l.length) (k : Nat) (hk : 1002 ≤ k) : dict_ends.f k l n = some (endsN (l.length + 1) l n) := by
  unfold dict_ends.f
  rw [show wrap64 ((l.length : Int) + 1) = (l.length : Int) + 1 by unfold wrap64; omega]
  exact ends_go l hl hp _ k n 0 h0 h1 (Int.le_refl _) (by omega) (by omega)
/-! going from parent to parent -/
def itN (l : List S82) : Nat → Int → Int
  | 0, n => n
  | j + 1, n => (rd_T82 l (itN l j n)).f1
/-! the program -/
def instsF (l : List S82) (t : List S91) (self : Int) : Bool := !decide (16 < (l.length : Int)) && (((self == -1) || livingB l self) && (l.all (fun x => instOk l x.f0 x.f1 x.f2 x.f3 t) && (List.range l.length).all (fun i => endsN (l.length + 1) l (i : Int))))
theorem rangeI_at (n i : Nat) (h : i < n) (p : Nat → Bool) : ((List.range n).drop i).all p = (p i && ((List.range n).drop (i + 1)).all p) := by
  rw [List.drop_eq_getElem_cons (by simpa using h), List.all_cons]
  simp
theorem rangeI_end (n i : Nat) (h : n ≤ i) (p : Nat → Bool) : ((List.range n).drop i).all p = true := by
  rw [List.drop_eq_nil_of_le (by simpa using h)]; rfl
section
variable (b0 b1 : List Int) (b2 : List S51) (b3 : List Int) (b4 : Int) (t : List S91) (b6 : Int) (l : List S82) (b8 : Int) (b9 : ByteArray)
theorem insts1_go (hl : l.length ≤ 16) (hp : okPar l) : ∀ (d k : Nat) (i : Int), 0 ≤ i → i + d = l.length → d + 1003 ≤ k → dict_instsRight.l1 k (l.length : Int) i b0 b1 b2 b3 b4 t b6 l b8 b9 = some (((List.range l.length).drop i.toNat).all (fun j => endsN (l.length + 1) l (j : Int)))
  | 0, k, i, h0, h1, hk => by
    obtain ⟨k, rfl⟩ : ∃ m, k = m + 1 := ⟨k - 1, by omega⟩
    rw [dict_instsRight.l1, if_neg (by omega), rangeI_end _ _ (by omega)]
  | d + 1, k, i, h0, h1, hk => by
    obtain ⟨k, rfl⟩ : ∃ m, k = m + 1 := ⟨k - 1, by omega⟩
    have hw : wrap64 (i + 1) = i + 1 := by unfold wrap64; omega
    rw [dict_instsRight.l1, if_pos (by omega), ends_eq l (by omega) hp i (by omega) (by omega) k (by omega), Option.bind_some, hw, insts1_go hl hp d k (i + 1) (by omega) (by omega) (by omega), rangeI_at _ i.toNat (by omega), show (i + 1).toNat = i.toNat + 1 by omega, show ((i.toNat : Nat) : Int) = i by omega]
    cases endsN (l.length + 1) l i with
    | true => rw [if_pos rfl]; rfl
    | false => rw [if_neg (by simp)]; rfl
theorem okPar_of (h : l.all (fun x => instOk l x.f0 x.f1 x.f2 x.f3 t) = true) : okPar l := fun x hx => by
  have := List.all_eq_true.1 h x hx
  unfold instOk livingB at this
  split at this
  · simp only [Bool.and_eq_true, beq_iff_eq] at this
    have hp : 0 < l.length := List.length_pos_of_mem hx
    omega
  · simp only [Bool.and_eq_true, Bool.or_eq_true, beq_iff_eq, decide_eq_true_eq] at this
    have hp : 0 < l.length := List.length_pos_of_mem hx
    rcases this.2.2.2.2.2 with h | h <;> omega
theorem insts0_go (hl : l.length ≤ 16) (R : Bool) (hR : l.all (fun x => instOk l x.f0 x.f1 x.f2 x.f3 t) = true → ∀ k, 1020 ≤ k → dict_instsRight.l1 k (l.length : Int) 0 b0 b1 b2 b3 b4 t b6 l b8 b9 = some R) :
    ∀ (d k : Nat) (i : Int), 0 ≤ i → i + d = l.length → (∀ j : Nat, j < i.toNat → (fun x : S82 => instOk l x.f0 x.f1 x.f2 x.f3 t) (l.getD j z82) = true) → d + 1021 ≤ k → dict_instsRight.l0 k l (l.length : Int) i b0 b1 b2 b3 b4 t b6 l b8 b9 = some ((l.drop i.toNat).all (fun x => instOk l x.f0 x.f1 x.f2 x.f3 t) && R)
  | 0, k, i, h0, h1, hz, hk => by
    obtain ⟨k, rfl⟩ : ∃ m, k = m + 1 := ⟨k - 1, by omega⟩
    rw [dict_instsRight.l0, if_neg (by omega), List.drop_eq_nil_of_le (by omega), hR ?_ k (by omega)]
    · rfl
    · rw [List.all_eq_true]
      intro x hx
      obtain ⟨j, hj, rfl⟩ := List.mem_iff_getElem.1 hx
      have := hz j (by omega)
      rw [List.getD_eq_getElem?_getD, List.getElem?_eq_getElem hj] at this
      exact this
  | d + 1, k, i, h0, h1, hz, hk => by
    obtain ⟨k, rfl⟩ : ∃ m, k = m + 1 := ⟨k - 1, by omega⟩
    have hw : wrap64 (i + 1) = i + 1 := by unfold wrap64; omega
    have hd : dict_instRight.f l (rd_T82 l i).f0 (rd_T82 l i).f1 (rd_T82 l i).f2 (rd_T82 l i).f3 t = some (instOk l (rd_T82 l i).f0 (rd_T82 l i).f1 (rd_T82 l i).f2 (rd_T82 l i).f3 t) := rfl
    rw [dict_instsRight.l0, if_pos (by omega), if_pos h0, if_pos (by omega), hd, Option.bind_some, hw, alls_at _ z82 l i h0 (by omega), show l.getD i.toNat z82 = rd_T82 l i from rfl]
    cases hv : instOk l (rd_T82 l i).f0 (rd_T82 l i).f1 (rd_T82 l i).f2 (rd_T82 l i).f3 t with
    | true =>
      rw [if_pos rfl, insts0_go hl R hR d k (i + 1) (by omega) (by omega) (fun j hj => by
        by_cases e : j = i.toNat
        · subst e; exact hv
        · exact hz j (by omega)) (by omega)]
      rfl
    | false => rw [if_neg (by simp)]; rfl
theorem insts_eq (k : Nat) (hk : 1100 ≤ k) : dict_instsRight.f k b0 b1 b2 b3 b4 t b6 l b8 b9 = some (instsF l t b8) := by
  obtain ⟨k, rfl⟩ : ∃ m, k = m + 1 := ⟨k - 1, by omega⟩
  unfold dict_instsRight.f instsF
  by_cases hl : (l.length : Int) > 16
  · rw [if_pos hl, dict_instsRight.j0, if_pos rfl, decide_eq_true (show 16 < (l.length : Int) from hl)]; rfl
  · have h0 : dict_instsRight.j0 (k + 1) false b0 b1 b2 b3 b4 t b6 l b8 b9 = some (l.all (fun x => instOk l x.f0 x.f1 x.f2 x.f3 t) && (List.range l.length).all (fun i => endsN (l.length + 1) l (i : Int))) := by
      rw [dict_instsRight.j0, if_neg (by simp), insts0_go b0 b1 b2 b3 b4 t b6 l b8 b9 (by omega) ((List.range l.length).all (fun i => endsN (l.length + 1) l (i : Int))) (fun h k hk => insts1_go b0 b1 b2 b3 b4 t b6 l b8 b9 (by omega) (okPar_of t l h) l.length k 0 (Int.le_refl _) (by omega) (by omega)) l.length k 0 (Int.le_refl _) (by omega) (fun j hj => absurd hj (by simp)) (by omega)]
      rfl
    rw [if_neg hl, decide_eq_false (show ¬ 16 < (l.length : Int) from hl)]
    by_cases hs : b8 = -1
    · rw [if_pos hs, h0, beq_iff_eq.2 hs]; rfl
    · rw [if_neg hs, living_eq, Option.bind_some, beq_eq_false_iff_ne.2 hs, Bool.false_or]
      cases livingB l b8 with
      | true => show dict_instsRight.j0 (k + 1) false b0 b1 b2 b3 b4 t b6 l b8 b9 = _; rw [h0]; rfl
      | false => show dict_instsRight.j0 (k + 1) true b0 b1 b2 b3 b4 t b6 l b8 b9 = _; rw [dict_instsRight.j0, if_pos rfl]; rfl
end
/-! the reference -/
def aliveB (l : List S82) (n : Int) : Bool := decide (0 ≤ n) && (decide (n < (l.length : Int)) && decide (0 ≤ (rd_T82 l n).f0))
def instOkR (l : List S82) (a b : Int) (s : ByteArray) (cs : List Int) (t : List S91) : Bool :=
  if (a == -1) = true then (b == -1) && ((s.toList == ([] : List UInt8)) && ((cs.length : Int) == 0))
  else decide (0 ≤ a) && (decide (a < (t.length : Int)) && (((cs.length : Int) == ((rd_T91 t a).f4.length : Int)) && (decide ((s.size : Int) ≤ 256) && (!hasSlash s && ((b == -1) || aliveB l b)))))
section
variable (l : List S82) (t : List S91)
end
end Go.Proofs.Ytfpkakedlapmkaa.Q
end
section
set_option linter.unusedSimpArgs false
set_option linter.unusedVariables false
namespace Go.Proofs.Ytfpkakedlapmkaa.Q
open Go.RowKit Go.Proofs.YtfpkakedlapmkaaW.PrintWords Go.Proofs.YtfpkakedlapmkaaW.PrintLast
def wordsT (t : List S91) (l : List S51) : Bool := !decide (640 < l.length) && (!decide (l.length < 111) && (wordsF primsL l && !((l.drop 111).any (badW l.length t))))
theorem wordsAll_calls (A0 : Option Addr) (c0 : Nat) (l0 : List Int) (A1 : Option Addr) (c1 : Nat) (l1 : List Int) (A2 : Option Addr) (c2 : Nat) (l2 : List S51) (A3 : Option Addr) (c3 : Nat) (l3 : List Int) (a4 : Int) (A5 : Option Addr) (c5 : Nat) (l5 : List S91) (a6 : Int) (A7 : Option Addr) (c7 : Nat) (l7 : List S82) (a8 : Int) (a9 : ByteArray) (w : World) (hr0 : Kd.C (Kd.int .u32) w A0 l0.length l0) (hc0 : l0.length ≤ c0) (hr1 : Kd.C (Kd.int .u8) w A1 l1.length l1) (hc1 : l1.length ≤ c1) (hr2 : Kd.C k51 w A2 l2.length l2) (hc2 : l2.length ≤ c2) (hr3 : Kd.C (Kd.int .i64) w A3 l3.length l3) (hc3 : l3.length ≤ c3) (hr5 : Kd.C k91 w A5 l5.length l5) (hc5 : l5.length ≤ c5) (hr7 : Kd.C k82 w A7 l7.length l7) (hc7 : l7.length ≤ c7) :
    Calls Try.prog 47 #[.agg #[.slice A0 l0.length c0, .slice A1 l1.length c1, .slice A2 l2.length c2, .slice A3 l3.length c3, .int .u32 a4, .slice A5 l5.length c5, .int .i64 a6, .slice A7 l7.length c7, .int .i64 a8, .string a9]] w fun e w' => e = .returned (.bool (wordsT l5 l2)) ∧ Below w.heap.size w w' := by
  unfold wordsT
  by_cases h1 : 640 < l2.length
  · rw [decide_eq_true h1]
    exact wordsShort_calls _ _ A2 c2 l2.length _ a4 _ a6 _ a8 a9 w (.inl h1)
  · by_cases h2 : l2.length < 111
    · rw [decide_eq_false h1, decide_eq_true h2]
      exact wordsShort_calls _ _ A2 c2 l2.length _ a4 _ a6 _ a8 a9 w (.inr h2)
    · rw [decide_eq_false h1, decide_eq_false h2]
      obtain ⟨ad, rfl⟩ : ∃ ad, A2 = some ad := by
        obtain ⟨ad, _, _, hA, _⟩ := at_T51 hr2 0 (by omega) (by omega)
        exact ⟨ad, hA⟩
      have hcut := C_cut hr2 hc2 111 (l2.length - 111) (by omega)
      have e1 : (l2.drop 111).take (l2.length - 111) = l2.drop 111 := List.take_of_length_le (by rw [List.length_drop]; omega)
      have e2 : cutAt (some ad) c2 111 5 = (if c2 = 111 then some ad else some (ad.add 555)) := rfl
      have e3 : l2.length - 111 = (l2.drop 111).length := (List.length_drop).symm
      rw [e1, show (k51).sz = 5 from rfl, e2] at hcut
      exact wordsRight_calls primsL primsL_len prims_exact _ _ ad c2 l2 _ a4 _ a6 _ a8 a9 w hr2 (by omega) (by omega) hc2 ((l2.drop 111).any (badW l2.length l5)) (fun X hX hh => by
        have h := containsWord_calls w.heap.size (.slice A0 l0.length c0) (.slice A1 l1.length c1) (some ad) l2.length c2 (.slice A3 l3.length c3) a4 A5 l5 c5 a6 (.slice A7 l7.length c7) a8 a9 (if c2 = 111 then some ad else some (ad.add 555)) (c2 - 111) (l2.drop 111) X (by rw [← e3]; exact Kd.C_below hcut hX) hh (Kd.C_below hr5 hX) hc5
        rw [← e3] at h
        exact h)
def formedF (l0 l1 : List Int) (l2 : List S51) (l3 : List Int) (a4 : Int) (l5 : List S91) (a6 : Int) (l7 : List S82) (a8 : Int) (a9 : ByteArray) : Bool :=
  !decide (64 < (l0.length : Int)) && (!decide (4096 < (l1.length : Int)) && (!decide (1024 < (a9.size : Int)) && (!decide (2048 < (l3.length : Int)) && (!decide (a4 < 2) && (!decide (36 < a4) && (treeF l5 && (!decide (a6 < -1) && (!decide ((l5.length : Int) ≤ a6) && (instsF l7 l5 a8 && (wordsT l5 l2 && !(l3.any (wildB l2.length))))))))))))
set_option maxHeartbeats 8000000 in
set_option maxRecDepth 100000 in
theorem formed_calls (A0 : Option Addr) (c0 : Nat) (l0 : List Int) (A1 : Option Addr) (c1 : Nat) (l1 : List Int) (A2 : Option Addr) (c2 : Nat) (l2 : List S51) (A3 : Option Addr) (c3 : Nat) (l3 : List Int) (a4 : Int) (A5 : Option Addr) (c5 : Nat) (l5 : List S91) (a6 : Int) (A7 : Option Addr) (c7 : Nat) (l7 : List S82) (a8 : Int) (a9 : ByteArray) (w : World) (hr0 : Kd.C (Kd.int .u32) w A0 l0.length l0) (hc0 : l0.length ≤ c0) (hr1 : Kd.C (Kd.int .u8) w A1 l1.length l1) (hc1 : l1.length ≤ c1) (hr2 : Kd.C k51 w A2 l2.length l2) (hc2 : l2.length ≤ c2) (hr3 : Kd.C (Kd.int .i64) w A3 l3.length l3) (hc3 : l3.length ≤ c3) (hr5 : Kd.C k91 w A5 l5.length l5) (hc5 : l5.length ≤ c5) (hr7 : Kd.C k82 w A7 l7.length l7) (hc7 : l7.length ≤ c7) :
    Calls Try.prog 26 #[.agg #[.slice A0 l0.length c0, .slice A1 l1.length c1, .slice A2 l2.length c2, .slice A3 l3.length c3, .int .u32 a4, .slice A5 l5.length c5, .int .i64 a6, .slice A7 l7.length c7, .int .i64 a8, .string a9]] w fun e w' => e = .returned (.bool (formedF l0 l1 l2 l3 a4 l5 a6 l7 a8 a9)) ∧ Below w.heap.size w w' := by
  have hu32 := Try.underlying32
  have HTF := Aside0.mk (fun (X : World) (hX : Below w.heap.size w X) => treeFormed_calls A5 c5 l5 X (Kd.C_below hr5 hX) hc5)
  have HIN := Aside0.mk (fun (X : World) (hX : Below w.heap.size w X) => dict_instsRight.calls 1100 A0 c0 l0 A1 c1 l1 A2 c2 l2 A3 c3 l3 a4 A5 c5 l5 a6 A7 c7 l7 a8 a9 (instsF l7 l5 a8) X (Kd.C_below hr0 hX) hc0 (Kd.C_below hr1 hX) hc1 (Kd.C_below hr2 hX) hc2 (Kd.C_below hr3 hX) hc3 (Kd.C_below hr5 hX) hc5 (Kd.C_below hr7 hX) hc7 (insts_eq _ _ _ _ _ _ _ _ _ _ _ (Nat.le_refl _)))
  have HWR := Aside0.mk (fun (X : World) (hX : Below w.heap.size w X) => wordsAll_calls A0 c0 l0 A1 c1 l1 A2 c2 l2 A3 c3 l3 a4 A5 c5 l5 a6 A7 c7 l7 a8 a9 X (Kd.C_below hr0 hX) hc0 (Kd.C_below hr1 hX) hc1 (Kd.C_below hr2 hX) hc2 (Kd.C_below hr3 hX) hc3 (Kd.C_below hr5 hX) hc5 (Kd.C_below hr7 hX) hc7)
  have HCI := Aside0.mk (fun (X : World) (hX : Below w.heap.size w X) (hh : X.heap[w.heap.size]? = some (.cells #[.slice A0 l0.length c0, .slice A1 l1.length c1, .slice A2 l2.length c2, .slice A3 l3.length c3, .int .u32 a4, .slice A5 l5.length c5, .int .i64 a6, .slice A7 l7.length c7, .int .i64 a8, .string a9] 32 (0, 0))) => containsInt_calls w.heap.size (.slice A0 l0.length c0) (.slice A1 l1.length c1) A2 l2.length c2 (.slice A3 l3.length c3) a4 A5 l5 c5 a6 (.slice A7 l7.length c7) a8 a9 A3 c3 l3 X (Kd.C_below hr3 hX) hh)
  have HB := Aside0.mk (Below.refl w.heap.size w)
  have BK := Aside0.mk (blk_new w (.cells #[.slice A0 l0.length c0, .slice A1 l1.length c1, .slice A2 l2.length c2, .slice A3 l3.length c3, .int .u32 a4, .slice A5 l5.length c5, .int .i64 a6, .slice A7 l7.length c7, .int .i64 a8, .string a9] 32))
  clear hr0 hc0 hr1 hc1 hr2 hc2 hr3 hc3 hr5 hc5 hr7 hc7
  obtain ⟨r, hr⟩ : ∃ r, r = formedF l0 l1 l2 l3 a4 l5 a6 l7 a8 a9 := ⟨_, rfl⟩
  rw [← hr]
  have HR := Aside0.mk hr
  clear hr
  have HI := HR.out
  clear HR
  unfold formedF at HI
  generalize treeF l5 = tf at HTF HI
  generalize instsF l7 l5 a8 = ti at HIN HI
  generalize wordsT l5 l2 = tw at HWR HI
  generalize l3.any (wildB l2.length) = tc at HCI HI
  cases d1 : decide (64 < (l0.length : Int)) with
  | true =>
    simp only [d1, if_true, if_false, Bool.true_and, Bool.false_and, Bool.not_true, Bool.not_false, Bool.true_or, Bool.false_or, Bool.false_eq_true, Bool.and_true, Bool.and_false] at HI
    subst HI
    go_enter Try.func26, Try.ntmps26
    go_wp2
    go_ret
    exact ⟨rfl, by first | exact HB.out | exact below_alloc HB.out _⟩
  | false =>
    simp only [d1, if_true, if_false, Bool.true_and, Bool.false_and, Bool.not_true, Bool.not_false, Bool.true_or, Bool.false_or, Bool.false_eq_true, Bool.and_true, Bool.and_false] at HI
    cases d2 : decide (4096 < (l1.length : Int)) with
    | true =>
      simp only [d2, if_true, if_false, Bool.true_and, Bool.false_and, Bool.not_true, Bool.not_false, Bool.true_or, Bool.false_or, Bool.false_eq_true, Bool.and_true, Bool.and_false] at HI
      subst HI
      go_enter Try.func26, Try.ntmps26
      go_wp2
      go_ret
      exact ⟨rfl, by first | exact HB.out | exact below_alloc HB.out _⟩
    | false =>
      simp only [d2, if_true, if_false, Bool.true_and, Bool.false_and, Bool.not_true, Bool.not_false, Bool.true_or, Bool.false_or, Bool.false_eq_true, Bool.and_true, Bool.and_false] at HI
      cases d3 : decide (1024 < (a9.size : Int)) with
      | true =>
        simp only [d3, if_true, if_false, Bool.true_and, Bool.false_and, Bool.not_true, Bool.not_false, Bool.true_or, Bool.false_or, Bool.false_eq_true, Bool.and_true, Bool.and_false] at HI
        subst HI
        go_enter Try.func26, Try.ntmps26
        go_wp2
        go_ret
        exact ⟨rfl, by first | exact HB.out | exact below_alloc HB.out _⟩
      | false =>
        simp only [d3, if_true, if_false, Bool.true_and, Bool.false_and, Bool.not_true, Bool.not_false, Bool.true_or, Bool.false_or, Bool.false_eq_true, Bool.and_true, Bool.and_false] at HI
        cases d4 : decide (2048 < (l3.length : Int)) with
        | true =>
          simp only [d4, if_true, if_false, Bool.true_and, Bool.false_and, Bool.not_true, Bool.not_false, Bool.true_or, Bool.false_or, Bool.false_eq_true, Bool.and_true, Bool.and_false] at HI
          subst HI
          go_enter Try.func26, Try.ntmps26
          go_wp2
          go_ret
          exact ⟨rfl, by first | exact HB.out | exact below_alloc HB.out _⟩
        | false =>
          simp only [d4, if_true, if_false, Bool.true_and, Bool.false_and, Bool.not_true, Bool.not_false, Bool.true_or, Bool.false_or, Bool.false_eq_true, Bool.and_true, Bool.and_false] at HI
          cases e1 : decide (a4 < 2) with
          | true =>
            simp only [e1, if_true, if_false, Bool.true_and, Bool.false_and, Bool.not_true, Bool.not_false, Bool.true_or, Bool.false_or, Bool.false_eq_true, Bool.and_true, Bool.and_false] at HI
            subst HI
            go_enter Try.func26, Try.ntmps26
            go_wp2
            go_ret
            exact ⟨rfl, by first | exact HB.out | exact below_alloc HB.out _⟩
          | false =>
            simp only [e1, if_true, if_false, Bool.true_and, Bool.false_and, Bool.not_true, Bool.not_false, Bool.true_or, Bool.false_or, Bool.false_eq_true, Bool.and_true, Bool.and_false] at HI
            cases e2 : decide (36 < a4) with
            | true =>
              simp only [e2, if_true, if_false, Bool.true_and, Bool.false_and, Bool.not_true, Bool.not_false, Bool.true_or, Bool.false_or, Bool.false_eq_true, Bool.and_true, Bool.and_false] at HI
              subst HI
              go_enter Try.func26, Try.ntmps26
              go_wp2
              go_ret
              exact ⟨rfl, by first | exact HB.out | exact below_alloc HB.out _⟩
            | false =>
              simp only [e2, if_true, if_false, Bool.true_and, Bool.false_and, Bool.not_true, Bool.not_false, Bool.true_or, Bool.false_or, Bool.false_eq_true, Bool.and_true, Bool.and_false] at HI
              cases tf with
              | true =>
                simp only [if_true, if_false, Bool.true_and, Bool.false_and, Bool.not_true, Bool.not_false, Bool.true_or, Bool.false_or, Bool.false_eq_true, Bool.and_true, Bool.and_false] at HI
                cases e4 : decide (a6 < -1) with
                | true =>
                  simp only [e4, if_true, if_false, Bool.true_and, Bool.false_and, Bool.not_true, Bool.not_false, Bool.true_or, Bool.false_or, Bool.false_eq_true, Bool.and_true, Bool.and_false] at HI
                  subst HI
                  go_enter Try.func26, Try.ntmps26
                  go_wp2_with (first
                    | (go_at_call 44; refine (HTF.out _ (below_alloc (Below.refl _ _) _)).mono ?_; rintro e w1 ⟨rfl, hb⟩; replace BK := Aside0.mk (blk_below BK.out hb); replace HB := Aside0.mk (below_step (below_alloc (Below.refl _ _) _) hb); clear hb; have z1_0 : w1.cell? ⟨w.heap.size, 0, none⟩ = some (.slice A0 l0.length c0) := (blk_cell BK.out 0).trans rfl; have z1_1 : w1.cell? ⟨w.heap.size, 1, none⟩ = some (.slice A1 l1.length c1) := (blk_cell BK.out 1).trans rfl; have z1_2 : w1.cell? ⟨w.heap.size, 2, none⟩ = some (.slice A2 l2.length c2) := (blk_cell BK.out 2).trans rfl; have z1_3 : w1.cell? ⟨w.heap.size, 3, none⟩ = some (.slice A3 l3.length c3) := (blk_cell BK.out 3).trans rfl; have z1_4 : w1.cell? ⟨w.heap.size, 4, none⟩ = some (.int .u32 a4) := (blk_cell BK.out 4).trans rfl; have z1_5 : w1.cell? ⟨w.heap.size, 5, none⟩ = some (.slice A5 l5.length c5) := (blk_cell BK.out 5).trans rfl; have z1_6 : w1.cell? ⟨w.heap.size, 6, none⟩ = some (.int .i64 a6) := (blk_cell BK.out 6).trans rfl; have z1_7 : w1.cell? ⟨w.heap.size, 7, none⟩ = some (.slice A7 l7.length c7) := (blk_cell BK.out 7).trans rfl; have z1_8 : w1.cell? ⟨w.heap.size, 8, none⟩ = some (.int .i64 a8) := (blk_cell BK.out 8).trans rfl; have z1_9 : w1.cell? ⟨w.heap.size, 9, none⟩ = some (.string a9) := (blk_cell BK.out 9).trans rfl))
                  go_ret
                  exact ⟨rfl, by first | exact HB.out | exact below_alloc HB.out _⟩
                | false =>
                  simp only [e4, if_true, if_false, Bool.true_and, Bool.false_and, Bool.not_true, Bool.not_false, Bool.true_or, Bool.false_or, Bool.false_eq_true, Bool.and_true, Bool.and_false] at HI
                  cases e5 : decide ((l5.length : Int) ≤ a6) with
                  | true =>
                    simp only [e5, if_true, if_false, Bool.true_and, Bool.false_and, Bool.not_true, Bool.not_false, Bool.true_or, Bool.false_or, Bool.false_eq_true, Bool.and_true, Bool.and_false] at HI
                    subst HI
                    go_enter Try.func26, Try.ntmps26
                    go_wp2_with (first
                      | (go_at_call 44; refine (HTF.out _ (below_alloc (Below.refl _ _) _)).mono ?_; rintro e w1 ⟨rfl, hb⟩; replace BK := Aside0.mk (blk_below BK.out hb); replace HB := Aside0.mk (below_step (below_alloc (Below.refl _ _) _) hb); clear hb; have z1_0 : w1.cell? ⟨w.heap.size, 0, none⟩ = some (.slice A0 l0.length c0) := (blk_cell BK.out 0).trans rfl; have z1_1 : w1.cell? ⟨w.heap.size, 1, none⟩ = some (.slice A1 l1.length c1) := (blk_cell BK.out 1).trans rfl; have z1_2 : w1.cell? ⟨w.heap.size, 2, none⟩ = some (.slice A2 l2.length c2) := (blk_cell BK.out 2).trans rfl; have z1_3 : w1.cell? ⟨w.heap.size, 3, none⟩ = some (.slice A3 l3.length c3) := (blk_cell BK.out 3).trans rfl; have z1_4 : w1.cell? ⟨w.heap.size, 4, none⟩ = some (.int .u32 a4) := (blk_cell BK.out 4).trans rfl; have z1_5 : w1.cell? ⟨w.heap.size, 5, none⟩ = some (.slice A5 l5.length c5) := (blk_cell BK.out 5).trans rfl; have z1_6 : w1.cell? ⟨w.heap.size, 6, none⟩ = some (.int .i64 a6) := (blk_cell BK.out 6).trans rfl; have z1_7 : w1.cell? ⟨w.heap.size, 7, none⟩ = some (.slice A7 l7.length c7) := (blk_cell BK.out 7).trans rfl; have z1_8 : w1.cell? ⟨w.heap.size, 8, none⟩ = some (.int .i64 a8) := (blk_cell BK.out 8).trans rfl; have z1_9 : w1.cell? ⟨w.heap.size, 9, none⟩ = some (.string a9) := (blk_cell BK.out 9).trans rfl))
                    go_ret
                    exact ⟨rfl, by first | exact HB.out | exact below_alloc HB.out _⟩
                  | false =>
                    simp only [e5, if_true, if_false, Bool.true_and, Bool.false_and, Bool.not_true, Bool.not_false, Bool.true_or, Bool.false_or, Bool.false_eq_true, Bool.and_true, Bool.and_false] at HI
                    cases ti with
                    | true =>
                      simp only [if_true, if_false, Bool.true_and, Bool.false_and, Bool.not_true, Bool.not_false, Bool.true_or, Bool.false_or, Bool.false_eq_true, Bool.and_true, Bool.and_false] at HI
                      cases tw with
                      | true =>
                        simp only [if_true, if_false, Bool.true_and, Bool.false_and, Bool.not_true, Bool.not_false, Bool.true_or, Bool.false_or, Bool.false_eq_true, Bool.and_true, Bool.and_false] at HI
                        cases tc with
                        | true =>
                          simp only [if_true, if_false, Bool.true_and, Bool.false_and, Bool.not_true, Bool.not_false, Bool.true_or, Bool.false_or, Bool.false_eq_true, Bool.and_true, Bool.and_false] at HI
                          subst HI
                          go_enter Try.func26, Try.ntmps26
                          go_wp2_with (first
                            | (go_at_call 44; refine (HTF.out _ (below_alloc (Below.refl _ _) _)).mono ?_; rintro e w1 ⟨rfl, hb⟩; replace BK := Aside0.mk (blk_below BK.out hb); replace HB := Aside0.mk (below_step (below_alloc (Below.refl _ _) _) hb); clear hb; have z1_0 : w1.cell? ⟨w.heap.size, 0, none⟩ = some (.slice A0 l0.length c0) := (blk_cell BK.out 0).trans rfl; have z1_1 : w1.cell? ⟨w.heap.size, 1, none⟩ = some (.slice A1 l1.length c1) := (blk_cell BK.out 1).trans rfl; have z1_2 : w1.cell? ⟨w.heap.size, 2, none⟩ = some (.slice A2 l2.length c2) := (blk_cell BK.out 2).trans rfl; have z1_3 : w1.cell? ⟨w.heap.size, 3, none⟩ = some (.slice A3 l3.length c3) := (blk_cell BK.out 3).trans rfl; have z1_4 : w1.cell? ⟨w.heap.size, 4, none⟩ = some (.int .u32 a4) := (blk_cell BK.out 4).trans rfl; have z1_5 : w1.cell? ⟨w.heap.size, 5, none⟩ = some (.slice A5 l5.length c5) := (blk_cell BK.out 5).trans rfl; have z1_6 : w1.cell? ⟨w.heap.size, 6, none⟩ = some (.int .i64 a6) := (blk_cell BK.out 6).trans rfl; have z1_7 : w1.cell? ⟨w.heap.size, 7, none⟩ = some (.slice A7 l7.length c7) := (blk_cell BK.out 7).trans rfl; have z1_8 : w1.cell? ⟨w.heap.size, 8, none⟩ = some (.int .i64 a8) := (blk_cell BK.out 8).trans rfl; have z1_9 : w1.cell? ⟨w.heap.size, 9, none⟩ = some (.string a9) := (blk_cell BK.out 9).trans rfl)
                            | (go_at_call 46; refine (HIN.out _ HB.out).mono ?_; rintro e w2 ⟨rfl, hb⟩; replace BK := Aside0.mk (blk_below BK.out hb); replace HB := Aside0.mk (below_step HB.out hb); clear hb; have z2_0 : w2.cell? ⟨w.heap.size, 0, none⟩ = some (.slice A0 l0.length c0) := (blk_cell BK.out 0).trans rfl; have z2_1 : w2.cell? ⟨w.heap.size, 1, none⟩ = some (.slice A1 l1.length c1) := (blk_cell BK.out 1).trans rfl; have z2_2 : w2.cell? ⟨w.heap.size, 2, none⟩ = some (.slice A2 l2.length c2) := (blk_cell BK.out 2).trans rfl; have z2_3 : w2.cell? ⟨w.heap.size, 3, none⟩ = some (.slice A3 l3.length c3) := (blk_cell BK.out 3).trans rfl; have z2_4 : w2.cell? ⟨w.heap.size, 4, none⟩ = some (.int .u32 a4) := (blk_cell BK.out 4).trans rfl; have z2_5 : w2.cell? ⟨w.heap.size, 5, none⟩ = some (.slice A5 l5.length c5) := (blk_cell BK.out 5).trans rfl; have z2_6 : w2.cell? ⟨w.heap.size, 6, none⟩ = some (.int .i64 a6) := (blk_cell BK.out 6).trans rfl; have z2_7 : w2.cell? ⟨w.heap.size, 7, none⟩ = some (.slice A7 l7.length c7) := (blk_cell BK.out 7).trans rfl; have z2_8 : w2.cell? ⟨w.heap.size, 8, none⟩ = some (.int .i64 a8) := (blk_cell BK.out 8).trans rfl; have z2_9 : w2.cell? ⟨w.heap.size, 9, none⟩ = some (.string a9) := (blk_cell BK.out 9).trans rfl)
                            | (go_at_call 47; refine (HWR.out _ HB.out).mono ?_; rintro e w3 ⟨rfl, hb⟩; replace BK := Aside0.mk (blk_below BK.out hb); replace HB := Aside0.mk (below_step HB.out hb); clear hb; have z3_0 : w3.cell? ⟨w.heap.size, 0, none⟩ = some (.slice A0 l0.length c0) := (blk_cell BK.out 0).trans rfl; have z3_1 : w3.cell? ⟨w.heap.size, 1, none⟩ = some (.slice A1 l1.length c1) := (blk_cell BK.out 1).trans rfl; have z3_2 : w3.cell? ⟨w.heap.size, 2, none⟩ = some (.slice A2 l2.length c2) := (blk_cell BK.out 2).trans rfl; have z3_3 : w3.cell? ⟨w.heap.size, 3, none⟩ = some (.slice A3 l3.length c3) := (blk_cell BK.out 3).trans rfl; have z3_4 : w3.cell? ⟨w.heap.size, 4, none⟩ = some (.int .u32 a4) := (blk_cell BK.out 4).trans rfl; have z3_5 : w3.cell? ⟨w.heap.size, 5, none⟩ = some (.slice A5 l5.length c5) := (blk_cell BK.out 5).trans rfl; have z3_6 : w3.cell? ⟨w.heap.size, 6, none⟩ = some (.int .i64 a6) := (blk_cell BK.out 6).trans rfl; have z3_7 : w3.cell? ⟨w.heap.size, 7, none⟩ = some (.slice A7 l7.length c7) := (blk_cell BK.out 7).trans rfl; have z3_8 : w3.cell? ⟨w.heap.size, 8, none⟩ = some (.int .i64 a8) := (blk_cell BK.out 8).trans rfl; have z3_9 : w3.cell? ⟨w.heap.size, 9, none⟩ = some (.string a9) := (blk_cell BK.out 9).trans rfl)
                            | (go_at_call 48; refine (HCI.out _ HB.out BK.out).mono ?_; rintro e w4 ⟨rfl, hb⟩; replace HB := Aside0.mk (below_step HB.out hb); clear hb))
                          go_ret
                          exact ⟨rfl, by first | exact HB.out | exact below_alloc HB.out _⟩
                        | false =>
                          simp only [if_true, if_false, Bool.true_and, Bool.false_and, Bool.not_true, Bool.not_false, Bool.true_or, Bool.false_or, Bool.false_eq_true, Bool.and_true, Bool.and_false] at HI
                          subst HI
                          go_enter Try.func26, Try.ntmps26
                          go_wp2_with (first
                            | (go_at_call 44; refine (HTF.out _ (below_alloc (Below.refl _ _) _)).mono ?_; rintro e w1 ⟨rfl, hb⟩; replace BK := Aside0.mk (blk_below BK.out hb); replace HB := Aside0.mk (below_step (below_alloc (Below.refl _ _) _) hb); clear hb; have z1_0 : w1.cell? ⟨w.heap.size, 0, none⟩ = some (.slice A0 l0.length c0) := (blk_cell BK.out 0).trans rfl; have z1_1 : w1.cell? ⟨w.heap.size, 1, none⟩ = some (.slice A1 l1.length c1) := (blk_cell BK.out 1).trans rfl; have z1_2 : w1.cell? ⟨w.heap.size, 2, none⟩ = some (.slice A2 l2.length c2) := (blk_cell BK.out 2).trans rfl; have z1_3 : w1.cell? ⟨w.heap.size, 3, none⟩ = some (.slice A3 l3.length c3) := (blk_cell BK.out 3).trans rfl; have z1_4 : w1.cell? ⟨w.heap.size, 4, none⟩ = some (.int .u32 a4) := (blk_cell BK.out 4).trans rfl; have z1_5 : w1.cell? ⟨w.heap.size, 5, none⟩ = some (.slice A5 l5.length c5) := (blk_cell BK.out 5).trans rfl; have z1_6 : w1.cell? ⟨w.heap.size, 6, none⟩ = some (.int .i64 a6) := (blk_cell BK.out 6).trans rfl; have z1_7 : w1.cell? ⟨w.heap.size, 7, none⟩ = some (.slice A7 l7.length c7) := (blk_cell BK.out 7).trans rfl; have z1_8 : w1.cell? ⟨w.heap.size, 8, none⟩ = some (.int .i64 a8) := (blk_cell BK.out 8).trans rfl; have z1_9 : w1.cell? ⟨w.heap.size, 9, none⟩ = some (.string a9) := (blk_cell BK.out 9).trans rfl)
                            | (go_at_call 46; refine (HIN.out _ HB.out).mono ?_; rintro e w2 ⟨rfl, hb⟩; replace BK := Aside0.mk (blk_below BK.out hb); replace HB := Aside0.mk (below_step HB.out hb); clear hb; have z2_0 : w2.cell? ⟨w.heap.size, 0, none⟩ = some (.slice A0 l0.length c0) := (blk_cell BK.out 0).trans rfl; have z2_1 : w2.cell? ⟨w.heap.size, 1, none⟩ = some (.slice A1 l1.length c1) := (blk_cell BK.out 1).trans rfl; have z2_2 : w2.cell? ⟨w.heap.size, 2, none⟩ = some (.slice A2 l2.length c2) := (blk_cell BK.out 2).trans rfl; have z2_3 : w2.cell? ⟨w.heap.size, 3, none⟩ = some (.slice A3 l3.length c3) := (blk_cell BK.out 3).trans rfl; have z2_4 : w2.cell? ⟨w.heap.size, 4, none⟩ = some (.int .u32 a4) := (blk_cell BK.out 4).trans rfl; have z2_5 : w2.cell? ⟨w.heap.size, 5, none⟩ = some (.slice A5 l5.length c5) := (blk_cell BK.out 5).trans rfl; have z2_6 : w2.cell? ⟨w.heap.size, 6, none⟩ = some (.int .i64 a6) := (blk_cell BK.out 6).trans rfl; have z2_7 : w2.cell? ⟨w.heap.size, 7, none⟩ = some (.slice A7 l7.length c7) := (blk_cell BK.out 7).trans rfl; have z2_8 : w2.cell? ⟨w.heap.size, 8, none⟩ = some (.int .i64 a8) := (blk_cell BK.out 8).trans rfl; have z2_9 : w2.cell? ⟨w.heap.size, 9, none⟩ = some (.string a9) := (blk_cell BK.out 9).trans rfl)
                            | (go_at_call 47; refine (HWR.out _ HB.out).mono ?_; rintro e w3 ⟨rfl, hb⟩; replace BK := Aside0.mk (blk_below BK.out hb); replace HB := Aside0.mk (below_step HB.out hb); clear hb; have z3_0 : w3.cell? ⟨w.heap.size, 0, none⟩ = some (.slice A0 l0.length c0) := (blk_cell BK.out 0).trans rfl; have z3_1 : w3.cell? ⟨w.heap.size, 1, none⟩ = some (.slice A1 l1.length c1) := (blk_cell BK.out 1).trans rfl; have z3_2 : w3.cell? ⟨w.heap.size, 2, none⟩ = some (.slice A2 l2.length c2) := (blk_cell BK.out 2).trans rfl; have z3_3 : w3.cell? ⟨w.heap.size, 3, none⟩ = some (.slice A3 l3.length c3) := (blk_cell BK.out 3).trans rfl; have z3_4 : w3.cell? ⟨w.heap.size, 4, none⟩ = some (.int .u32 a4) := (blk_cell BK.out 4).trans rfl; have z3_5 : w3.cell? ⟨w.heap.size, 5, none⟩ = some (.slice A5 l5.length c5) := (blk_cell BK.out 5).trans rfl; have z3_6 : w3.cell? ⟨w.heap.size, 6, none⟩ = some (.int .i64 a6) := (blk_cell BK.out 6).trans rfl; have z3_7 : w3.cell? ⟨w.heap.size, 7, none⟩ = some (.slice A7 l7.length c7) := (blk_cell BK.out 7).trans rfl; have z3_8 : w3.cell? ⟨w.heap.size, 8, none⟩ = some (.int .i64 a8) := (blk_cell BK.out 8).trans rfl; have z3_9 : w3.cell? ⟨w.heap.size, 9, none⟩ = some (.string a9) := (blk_cell BK.out 9).trans rfl)
                            | (go_at_call 48; refine (HCI.out _ HB.out BK.out).mono ?_; rintro e w4 ⟨rfl, hb⟩; replace HB := Aside0.mk (below_step HB.out hb); clear hb))
                          go_ret
                          exact ⟨rfl, by first | exact HB.out | exact below_alloc HB.out _⟩
                      | false =>
                        simp only [if_true, if_false, Bool.true_and, Bool.false_and, Bool.not_true, Bool.not_false, Bool.true_or, Bool.false_or, Bool.false_eq_true, Bool.and_true, Bool.and_false] at HI
                        subst HI
                        go_enter Try.func26, Try.ntmps26
                        go_wp2_with (first
                          | (go_at_call 44; refine (HTF.out _ (below_alloc (Below.refl _ _) _)).mono ?_; rintro e w1 ⟨rfl, hb⟩; replace BK := Aside0.mk (blk_below BK.out hb); replace HB := Aside0.mk (below_step (below_alloc (Below.refl _ _) _) hb); clear hb; have z1_0 : w1.cell? ⟨w.heap.size, 0, none⟩ = some (.slice A0 l0.length c0) := (blk_cell BK.out 0).trans rfl; have z1_1 : w1.cell? ⟨w.heap.size, 1, none⟩ = some (.slice A1 l1.length c1) := (blk_cell BK.out 1).trans rfl; have z1_2 : w1.cell? ⟨w.heap.size, 2, none⟩ = some (.slice A2 l2.length c2) := (blk_cell BK.out 2).trans rfl; have z1_3 : w1.cell? ⟨w.heap.size, 3, none⟩ = some (.slice A3 l3.length c3) := (blk_cell BK.out 3).trans rfl; have z1_4 : w1.cell? ⟨w.heap.size, 4, none⟩ = some (.int .u32 a4) := (blk_cell BK.out 4).trans rfl; have z1_5 : w1.cell? ⟨w.heap.size, 5, none⟩ = some (.slice A5 l5.length c5) := (blk_cell BK.out 5).trans rfl; have z1_6 : w1.cell? ⟨w.heap.size, 6, none⟩ = some (.int .i64 a6) := (blk_cell BK.out 6).trans rfl; have z1_7 : w1.cell? ⟨w.heap.size, 7, none⟩ = some (.slice A7 l7.length c7) := (blk_cell BK.out 7).trans rfl; have z1_8 : w1.cell? ⟨w.heap.size, 8, none⟩ = some (.int .i64 a8) := (blk_cell BK.out 8).trans rfl; have z1_9 : w1.cell? ⟨w.heap.size, 9, none⟩ = some (.string a9) := (blk_cell BK.out 9).trans rfl)
                          | (go_at_call 46; refine (HIN.out _ HB.out).mono ?_; rintro e w2 ⟨rfl, hb⟩; replace BK := Aside0.mk (blk_below BK.out hb); replace HB := Aside0.mk (below_step HB.out hb); clear hb; have z2_0 : w2.cell? ⟨w.heap.size, 0, none⟩ = some (.slice A0 l0.length c0) := (blk_cell BK.out 0).trans rfl; have z2_1 : w2.cell? ⟨w.heap.size, 1, none⟩ = some (.slice A1 l1.length c1) := (blk_cell BK.out 1).trans rfl; have z2_2 : w2.cell? ⟨w.heap.size, 2, none⟩ = some (.slice A2 l2.length c2) := (blk_cell BK.out 2).trans rfl; have z2_3 : w2.cell? ⟨w.heap.size, 3, none⟩ = some (.slice A3 l3.length c3) := (blk_cell BK.out 3).trans rfl; have z2_4 : w2.cell? ⟨w.heap.size, 4, none⟩ = some (.int .u32 a4) := (blk_cell BK.out 4).trans rfl; have z2_5 : w2.cell? ⟨w.heap.size, 5, none⟩ = some (.slice A5 l5.length c5) := (blk_cell BK.out 5).trans rfl; have z2_6 : w2.cell? ⟨w.heap.size, 6, none⟩ = some (.int .i64 a6) := (blk_cell BK.out 6).trans rfl; have z2_7 : w2.cell? ⟨w.heap.size, 7, none⟩ = some (.slice A7 l7.length c7) := (blk_cell BK.out 7).trans rfl; have z2_8 : w2.cell? ⟨w.heap.size, 8, none⟩ = some (.int .i64 a8) := (blk_cell BK.out 8).trans rfl; have z2_9 : w2.cell? ⟨w.heap.size, 9, none⟩ = some (.string a9) := (blk_cell BK.out 9).trans rfl)
                          | (go_at_call 47; refine (HWR.out _ HB.out).mono ?_; rintro e w3 ⟨rfl, hb⟩; replace BK := Aside0.mk (blk_below BK.out hb); replace HB := Aside0.mk (below_step HB.out hb); clear hb; have z3_0 : w3.cell? ⟨w.heap.size, 0, none⟩ = some (.slice A0 l0.length c0) := (blk_cell BK.out 0).trans rfl; have z3_1 : w3.cell? ⟨w.heap.size, 1, none⟩ = some (.slice A1 l1.length c1) := (blk_cell BK.out 1).trans rfl; have z3_2 : w3.cell? ⟨w.heap.size, 2, none⟩ = some (.slice A2 l2.length c2) := (blk_cell BK.out 2).trans rfl; have z3_3 : w3.cell? ⟨w.heap.size, 3, none⟩ = some (.slice A3 l3.length c3) := (blk_cell BK.out 3).trans rfl; have z3_4 : w3.cell? ⟨w.heap.size, 4, none⟩ = some (.int .u32 a4) := (blk_cell BK.out 4).trans rfl; have z3_5 : w3.cell? ⟨w.heap.size, 5, none⟩ = some (.slice A5 l5.length c5) := (blk_cell BK.out 5).trans rfl; have z3_6 : w3.cell? ⟨w.heap.size, 6, none⟩ = some (.int .i64 a6) := (blk_cell BK.out 6).trans rfl; have z3_7 : w3.cell? ⟨w.heap.size, 7, none⟩ = some (.slice A7 l7.length c7) := (blk_cell BK.out 7).trans rfl; have z3_8 : w3.cell? ⟨w.heap.size, 8, none⟩ = some (.int .i64 a8) := (blk_cell BK.out 8).trans rfl; have z3_9 : w3.cell? ⟨w.heap.size, 9, none⟩ = some (.string a9) := (blk_cell BK.out 9).trans rfl))
                        go_ret
                        exact ⟨rfl, by first | exact HB.out | exact below_alloc HB.out _⟩
                    | false =>
                      simp only [if_true, if_false, Bool.true_and, Bool.false_and, Bool.not_true, Bool.not_false, Bool.true_or, Bool.false_or, Bool.false_eq_true, Bool.and_true, Bool.and_false] at HI
                      subst HI
                      go_enter Try.func26, Try.ntmps26
                      go_wp2_with (first
                        | (go_at_call 44; refine (HTF.out _ (below_alloc (Below.refl _ _) _)).mono ?_; rintro e w1 ⟨rfl, hb⟩; replace BK := Aside0.mk (blk_below BK.out hb); replace HB := Aside0.mk (below_step (below_alloc (Below.refl _ _) _) hb); clear hb; have z1_0 : w1.cell? ⟨w.heap.size, 0, none⟩ = some (.slice A0 l0.length c0) := (blk_cell BK.out 0).trans rfl; have z1_1 : w1.cell? ⟨w.heap.size, 1, none⟩ = some (.slice A1 l1.length c1) := (blk_cell BK.out 1).trans rfl; have z1_2 : w1.cell? ⟨w.heap.size, 2, none⟩ = some (.slice A2 l2.length c2) := (blk_cell BK.out 2).trans rfl; have z1_3 : w1.cell? ⟨w.heap.size, 3, none⟩ = some (.slice A3 l3.length c3) := (blk_cell BK.out 3).trans rfl; have z1_4 : w1.cell? ⟨w.heap.size, 4, none⟩ = some (.int .u32 a4) := (blk_cell BK.out 4).trans rfl; have z1_5 : w1.cell? ⟨w.heap.size, 5, none⟩ = some (.slice A5 l5.length c5) := (blk_cell BK.out 5).trans rfl; have z1_6 : w1.cell? ⟨w.heap.size, 6, none⟩ = some (.int .i64 a6) := (blk_cell BK.out 6).trans rfl; have z1_7 : w1.cell? ⟨w.heap.size, 7, none⟩ = some (.slice A7 l7.length c7) := (blk_cell BK.out 7).trans rfl; have z1_8 : w1.cell? ⟨w.heap.size, 8, none⟩ = some (.int .i64 a8) := (blk_cell BK.out 8).trans rfl; have z1_9 : w1.cell? ⟨w.heap.size, 9, none⟩ = some (.string a9) := (blk_cell BK.out 9).trans rfl)
                        | (go_at_call 46; refine (HIN.out _ HB.out).mono ?_; rintro e w2 ⟨rfl, hb⟩; replace BK := Aside0.mk (blk_below BK.out hb); replace HB := Aside0.mk (below_step HB.out hb); clear hb; have z2_0 : w2.cell? ⟨w.heap.size, 0, none⟩ = some (.slice A0 l0.length c0) := (blk_cell BK.out 0).trans rfl; have z2_1 : w2.cell? ⟨w.heap.size, 1, none⟩ = some (.slice A1 l1.length c1) := (blk_cell BK.out 1).trans rfl; have z2_2 : w2.cell? ⟨w.heap.size, 2, none⟩ = some (.slice A2 l2.length c2) := (blk_cell BK.out 2).trans rfl; have z2_3 : w2.cell? ⟨w.heap.size, 3, none⟩ = some (.slice A3 l3.length c3) := (blk_cell BK.out 3).trans rfl; have z2_4 : w2.cell? ⟨w.heap.size, 4, none⟩ = some (.int .u32 a4) := (blk_cell BK.out 4).trans rfl; have z2_5 : w2.cell? ⟨w.heap.size, 5, none⟩ = some (.slice A5 l5.length c5) := (blk_cell BK.out 5).trans rfl; have z2_6 : w2.cell? ⟨w.heap.size, 6, none⟩ = some (.int .i64 a6) := (blk_cell BK.out 6).trans rfl; have z2_7 : w2.cell? ⟨w.heap.size, 7, none⟩ = some (.slice A7 l7.length c7) := (blk_cell BK.out 7).trans rfl; have z2_8 : w2.cell? ⟨w.heap.size, 8, none⟩ = some (.int .i64 a8) := (blk_cell BK.out 8).trans rfl; have z2_9 : w2.cell? ⟨w.heap.size, 9, none⟩ = some (.string a9) := (blk_cell BK.out 9).trans rfl))
                      go_ret
                      exact ⟨rfl, by first | exact HB.out | exact below_alloc HB.out _⟩
              | false =>
                simp only [if_true, if_false, Bool.true_and, Bool.false_and, Bool.not_true, Bool.not_false, Bool.true_or, Bool.false_or, Bool.false_eq_true, Bool.and_true, Bool.and_false] at HI
                subst HI
                go_enter Try.func26, Try.ntmps26
                go_wp2_with (first
                  | (go_at_call 44; refine (HTF.out _ (below_alloc (Below.refl _ _) _)).mono ?_; rintro e w1 ⟨rfl, hb⟩; replace BK := Aside0.mk (blk_below BK.out hb); replace HB := Aside0.mk (below_step (below_alloc (Below.refl _ _) _) hb); clear hb; have z1_0 : w1.cell? ⟨w.heap.size, 0, none⟩ = some (.slice A0 l0.length c0) := (blk_cell BK.out 0).trans rfl; have z1_1 : w1.cell? ⟨w.heap.size, 1, none⟩ = some (.slice A1 l1.length c1) := (blk_cell BK.out 1).trans rfl; have z1_2 : w1.cell? ⟨w.heap.size, 2, none⟩ = some (.slice A2 l2.length c2) := (blk_cell BK.out 2).trans rfl; have z1_3 : w1.cell? ⟨w.heap.size, 3, none⟩ = some (.slice A3 l3.length c3) := (blk_cell BK.out 3).trans rfl; have z1_4 : w1.cell? ⟨w.heap.size, 4, none⟩ = some (.int .u32 a4) := (blk_cell BK.out 4).trans rfl; have z1_5 : w1.cell? ⟨w.heap.size, 5, none⟩ = some (.slice A5 l5.length c5) := (blk_cell BK.out 5).trans rfl; have z1_6 : w1.cell? ⟨w.heap.size, 6, none⟩ = some (.int .i64 a6) := (blk_cell BK.out 6).trans rfl; have z1_7 : w1.cell? ⟨w.heap.size, 7, none⟩ = some (.slice A7 l7.length c7) := (blk_cell BK.out 7).trans rfl; have z1_8 : w1.cell? ⟨w.heap.size, 8, none⟩ = some (.int .i64 a8) := (blk_cell BK.out 8).trans rfl; have z1_9 : w1.cell? ⟨w.heap.size, 9, none⟩ = some (.string a9) := (blk_cell BK.out 9).trans rfl))
                go_ret
                exact ⟨rfl, by first | exact HB.out | exact below_alloc HB.out _⟩
def dict_Formed.f (l0_0 : List Int) (l0_1 : List Int) (l0_2 : List (S51)) (l0_3 : List Int) (a0_4 : Int) (l0_5 : List (S91)) (a0_6 : Int) (l0_7 : List (S82)) (a0_8 : Int) (a0_9 : ByteArray) : Option (Bool) := some (formedF l0_0 l0_1 l0_2 l0_3 a0_4 l0_5 a0_6 l0_7 a0_8 a0_9)
theorem dict_Formed.calls (A0 : Option Addr) (c0 : Nat) (l0 : List Int) (A1 : Option Addr) (c1 : Nat) (l1 : List Int) (A2 : Option Addr) (c2 : Nat) (l2 : List S51) (A3 : Option Addr) (c3 : Nat) (l3 : List Int) (a4 : Int) (A5 : Option Addr) (c5 : Nat) (l5 : List S91) (a6 : Int) (A7 : Option Addr) (c7 : Nat) (l7 : List S82) (a8 : Int) (a9 : ByteArray) (r : Bool) (w : World) (hr0 : Kd.C (Kd.int .u32) w A0 l0.length l0) (hc0 : l0.length ≤ c0) (hr1 : Kd.C (Kd.int .u8) w A1 l1.length l1) (hc1 : l1.length ≤ c1) (hr2 : Kd.C k51 w A2 l2.length l2) (hc2 : l2.length ≤ c2) (hr3 : Kd.C (Kd.int .i64) w A3 l3.length l3) (hc3 : l3.length ≤ c3) (hr5 : Kd.C k91 w A5 l5.length l5) (hc5 : l5.length ≤ c5) (hr7 : Kd.C k82 w A7 l7.length l7) (hc7 : l7.length ≤ c7) (h : dict_Formed.f l0 l1 l2 l3 a4 l5 a6 l7 a8 a9 = some r) :
    Calls Try.prog 26 #[.agg #[.slice A0 l0.length c0, .slice A1 l1.length c1, .slice A2 l2.length c2, .slice A3 l3.length c3, .int .u32 a4, .slice A5 l5.length c5, .int .i64 a6, .slice A7 l7.length c7, .int .i64 a8, .string a9]] w fun e w' => e = .returned (.bool r) ∧ Below w.heap.size w w' := by
  obtain rfl := Option.some.inj h
  exact formed_calls A0 c0 l0 A1 c1 l1 A2 c2 l2 A3 c3 l3 a4 A5 c5 l5 a6 A7 c7 l7 a8 a9 w hr0 hc0 hr1 hc1 hr2 hc2 hr3 hc3 hr5 hc5 hr7 hc7
end Go.Proofs.Ytfpkakedlapmkaa.Q
end
section
set_option linter.unusedSimpArgs false
set_option linter.unusedVariables false
namespace Go.Proofs.Ytfpkakedlapmkaa.Q
open Go.RowKit Go.Proofs.YtfpkakedlapmkaaW.PrintWords Go.Proofs.YtfpkakedlapmkaaW.PrintLast
section
variable {α : Type} {d : Kd α} {e : TypeId} {w W W' : World} {base g n cap i : Nat} {xs : List α} {cur cur' : Array Value} {v : Value}
theorem raw_nil {sz : Nat} {ok : Nat → Prop} (h : (Kd.raw sz).R e W base ok v []) (hs : sz = d.sz) : d.R e W base ok v [] := by
  obtain ⟨hok, inner, ho, hr⟩ := h
  have h1 := hr.1
  have e1 : inner = [] := List.eq_nil_of_length_eq_zero (by rw [h1, List.length_nil, Nat.zero_mul])
  subst e1
  subst hs
  exact ⟨hok, [], ho, Reps.none _ _⟩
def PX (d : Kd α) (e : TypeId) (w W : World) (base g n cap i : Nat) (xs : List α) (cur : Array Value) : Prop := ∃ f, PR (Kd.tag f d) e w W base g n cap i xs.zipIdx cur
theorem PX_PR (h : PX d e w W base g n cap i xs cur) : PR d e w W base g n cap i xs cur := by
  obtain ⟨f, hh, hb, hl, hnc, hcm, hcs, hj⟩ := h
  rw [List.length_zipIdx] at hl
  refine ⟨hh, hb, hl, hnc, hcm, hcs, fun j x hx => ?_⟩
  have h1 := hj j (x, j) (Kd.zip_at hx)
  split
  · rename_i h2
    rw [if_pos h2] at h1
    exact d.M_mono (fun k hk => hk.1) h1
  · rename_i h2
    rw [if_neg h2] at h1
    exact h1
theorem PX_start (h : PR d e w W base g n cap 0 xs cur) : PX d e w W base g n cap 0 xs cur := by
  obtain ⟨hh, hb, hl, hnc, hcm, hcs, hj⟩ := h
  refine ⟨fun _ => 0, hh, hb, by rw [List.length_zipIdx]; exact hl, hnc, hcm, hcs, fun j y hy => ?_⟩
  rw [if_neg (Nat.not_lt_zero j)]
  rw [List.getElem?_zipIdx] at hy
  obtain ⟨x, hx, rfl⟩ := Option.map_eq_some_iff.1 hy
  have h1 := hj j x hx
  rw [if_neg (Nat.not_lt_zero j)] at h1
  exact h1
theorem PR_tag {zs : List (α × Nat)} {f f' : Nat → Nat} (h : PR (Kd.tag f d) e w W base g n cap i zs cur) (hf : ∀ k, k < W.heap.size → f' k = f k) : PR (Kd.tag f' d) e w W base g n cap i zs cur := by
  obtain ⟨hh, hb, hl, hnc, hcm, hcs, hj⟩ := h
  refine ⟨hh, hb, hl, hnc, hcm, hcs, fun j y hy => ?_⟩
  have h1 := hj j y hy
  split
  · rename_i h2
    rw [if_pos h2] at h1
    exact d.M_mono (fun k hk => ⟨hk.1.1, (hf k hk.2.2.1).trans hk.1.2⟩) (d.M_bound h1)
  · rename_i h2
    rw [if_neg h2] at h1
    exact h1
theorem PX_put {x : α} (h : PX d e w W base g n cap i xs cur) (hx : xs[i]? = some x) (hh' : W'.heap[g]? = some (.cells cur' e (0, 0))) (hsz : cur'.size = cur.size) (hseg : ∀ j, j ≠ i → seg cur'.toList d.sz j = seg cur.toList d.sz j)
    (hM : d.M W' base (fun k => k ≠ g ∧ W.heap.size ≤ k) x (seg cur'.toList d.sz i)) (hm : ∀ k, k ≠ g → k < W.heap.size → W'.heap[k]? = W.heap[k]?) : PX d e w W' base g n cap (i + 1) xs cur' := by
  obtain ⟨f, hP⟩ := h
  refine ⟨fun k => if k < W.heap.size then f k else i, PR_put (PR_tag hP (fun k hk => if_pos hk)) hh' hsz hseg (fun y hy => ?_) hm⟩
  rw [Kd.zip_at hx] at hy
  obtain rfl := Option.some.inj hy
  exact d.M_mono (fun k hk => ⟨hk.1, if_neg (by have := hk.2; omega)⟩) hM
/-- The same, or a list without elements. -/
def WP (d : Kd α) (e : TypeId) (w W : World) (base : Nat) (v : Value) (i : Nat) (xs : List α) : Prop :=
  (xs = [] ∧ Kd.S d e W base (fun _ => True) v xs) ∨ ∃ g cap cur, v = .slice (some ⟨g, 0, none⟩) xs.length cap ∧ PX d e w W base g xs.length cap i xs cur
theorem WP_start {css : List (List Value)} {ok : Nat → Prop} (h : (Kd.raw d.sz).R e W base ok v css) (hl : css.length = xs.length) (hK : ∀ (j : Nat) x c, xs[j]? = some x → css[j]? = some c → d.K w x c) : WP d e w W base v 0 xs := by
  by_cases hn : xs = []
  · subst hn
    have e2 : css = [] := List.eq_nil_of_length_eq_zero (by simpa using hl)
    subst e2
    exact .inl ⟨rfl, fun _ => 0, Kd.R_mono (raw_nil (d := Kd.tag (fun _ => 0) d) h rfl) (fun _ _ => trivial)⟩
  · right
    obtain ⟨A1, cap, rfl⟩ := Kd.R_slice h
    rw [hl] at h ⊢
    cases A1 with
    | none =>
      have h2 := (Kd.R_reads' h).2.2
      have e2 := C_nil_eq h2
      rw [e2] at hl
      exact absurd (List.eq_nil_of_length_eq_zero hl.symm) hn
    | some ad =>
      obtain ⟨g, rfl⟩ := Kd.R_head h
      obtain ⟨cur, hP⟩ := PR_start (d := d) (xs := xs) h hl hK
      exact ⟨g, cap, cur, rfl, PX_start hP⟩
theorem WP_end (h : WP d e w W base v xs.length xs) : Kd.S d e W base (fun _ => True) v xs := by
  rcases h with ⟨_, h⟩ | ⟨g, cap, cur, rfl, f, h⟩
  · exact h
  · have e1 : xs.zipIdx.length = xs.length := List.length_zipIdx
    exact ⟨f, PR_end h⟩
theorem WP_open (h : WP d e w W base v i xs) (hi : i < xs.length) : ∃ g cap cur, v = .slice (some ⟨g, 0, none⟩) xs.length cap ∧ PX d e w W base g xs.length cap i xs cur := by
  rcases h with ⟨h, _⟩ | h
  · rw [h] at hi
    exact absurd hi (Nat.not_lt_zero _)
  · exact h
end
theorem cell_step {p : Addr} {a : Value} {W w2 : World} (h : W.cell? p = some a) (hb : Below W.heap.size W w2) : w2.cell? p = some a := (hb.cell (World.block_lt_of_cell? W _ h)).trans h
end Go.Proofs.Ytfpkakedlapmkaa.Q
end
section
set_option linter.unusedSimpArgs false
set_option linter.unusedVariables false
namespace Go.Proofs.Ytfpkakedlapmkaa.Q
open Go.RowKit Go.Proofs.YtfpkakedlapmkaaW.PrintWords Go.Proofs.YtfpkakedlapmkaaW.PrintLast Go.Proofs.YtfpkakedlapmkaaW.PrintMore
attribute [local go_sem] max2_int min2_int max_two min_two max_three min_three max_four min_four
set_option maxHeartbeats 4000000 in
set_option maxRecDepth 100000 in
theorem cloneWord_calls (A0 : Option Addr) (c0 : Nat) (l0 : List (List Value)) (w : World) (hr0 : Kd.C (Kd.raw 5) w A0 l0.length l0) (hl : l0.length * 64 < 140737488355328) :
    Calls Try.prog 57 #[.slice A0 l0.length c0] w fun e w' => ∃ v0_ : Value, e = .returned (v0_) ∧ Kd.R (Kd.raw 5) 51 w' w.heap.size (fun _ => True) v0_ l0 ∧ Below w.heap.size w w' := by
  have q : ∀ (w : World) (a : Option Addr) (n c n' c' : Nat), (binOp .eql 26 (.slice a n c) (.slice none n' c')).run Try.prog w = .ok (.bool a.isNone) w := fun w a n c n' c' => Lib.run_eql_slice_nil w _ _ a n c n' c' Try.underlying26
  cases A0 with
  | none =>
    obtain rfl := C_nil_eq hr0
    go_enter Try.func57, Try.ntmps57
    go_wp2
    go_ret
    exact ⟨_, rfl, Kd.R_nil _ _ _ _ _, Below.refl _ _⟩
  | some ad =>
    have HR := Aside0.mk hr0
    have HL := Aside0.mk hl
    clear hr0 hl
    go_enter Try.func57, Try.ntmps57
    go_wp2_with (at_builtin; refine Kd.R_append_rows (Kd.raw 5) (w0 := w) w.heap.size rfl (.tmp 5) (.tmp 6) 26 51 (.agg #[(.string ⟨#[]⟩), (.int .i64 0), (.int .i64 0), (.int .u32 0), (.slice none 0 0)]) 64 rfl Try.underlying26 info51 rfl (by decide) (by omega) (.slice (some ⟨w.heap.size, 0, none⟩) 0 0) ([] : List (List Value)) l0 _ _ _ (fun _ => True) (fun _ => False) rfl rfl ?aO ?aR (fun _ _ h => h) (fun _ h => h.elim) ?aF ?aB ?aS ?aL ?_; (case aR => exact Kd.C_alloc HR.out _); (case aB => exact (below_alloc (Below.refl _ _) _)); (case aF => exact (fun _ _ => trivial)); (case aO => exact R_empty _ _ _ _ (Nat.le_refl _)); (case aS => simp); (case aL => have := HL.out; simp only [List.length_nil]; omega); intro v1 w1 ho hb hg hat; have HO := Aside0.mk ho; have HB := Aside0.mk hb; clear ho hb hg hat)
    go_ret
    exact ⟨_, rfl, HO.out, HB.out⟩
set_option maxHeartbeats 4000000 in
set_option maxRecDepth 100000 in
theorem cloneInst_calls (A0 : Option Addr) (c0 : Nat) (l0 : List (List Value)) (w : World) (hr0 : Kd.C (Kd.raw 4) w A0 l0.length l0) (hl : l0.length * 56 < 140737488355328) :
    Calls Try.prog 58 #[.slice A0 l0.length c0] w fun e w' => ∃ v0_ : Value, e = .returned (v0_) ∧ Kd.R (Kd.raw 4) 82 w' w.heap.size (fun _ => True) v0_ l0 ∧ Below w.heap.size w w' := by
  have q : ∀ (w : World) (a : Option Addr) (n c n' c' : Nat), (binOp .eql 30 (.slice a n c) (.slice none n' c')).run Try.prog w = .ok (.bool a.isNone) w := fun w a n c n' c' => Lib.run_eql_slice_nil w _ _ a n c n' c' Try.underlying30
  cases A0 with
  | none =>
    obtain rfl := C_nil_eq hr0
    go_enter Try.func58, Try.ntmps58
    go_wp2
    go_ret
    exact ⟨_, rfl, Kd.R_nil _ _ _ _ _, Below.refl _ _⟩
  | some ad =>
    have HR := Aside0.mk hr0
    have HL := Aside0.mk hl
    clear hr0 hl
    go_enter Try.func58, Try.ntmps58
    go_wp2_with (at_builtin; refine Kd.R_append_rows (Kd.raw 4) (w0 := w) w.heap.size rfl (.tmp 5) (.tmp 6) 30 82 (.agg #[(.int .i64 0), (.int .i64 0), (.string ⟨#[]⟩), (.slice none 0 0)]) 56 rfl Try.underlying30 info82 rfl (by decide) (by omega) (.slice (some ⟨w.heap.size, 0, none⟩) 0 0) ([] : List (List Value)) l0 _ _ _ (fun _ => True) (fun _ => False) rfl rfl ?aO ?aR (fun _ _ h => h) (fun _ h => h.elim) ?aF ?aB ?aS ?aL ?_; (case aR => exact Kd.C_alloc HR.out _); (case aB => exact (below_alloc (Below.refl _ _) _)); (case aF => exact (fun _ _ => trivial)); (case aO => exact R_empty _ _ _ _ (Nat.le_refl _)); (case aS => simp); (case aL => have := HL.out; simp only [List.length_nil]; omega); intro v1 w1 ho hb hg hat; have HO := Aside0.mk ho; have HB := Aside0.mk hb; clear ho hb hg hat)
    go_ret
    exact ⟨_, rfl, HO.out, HB.out⟩
set_option maxHeartbeats 4000000 in
set_option maxRecDepth 100000 in
theorem cloneI64_calls (A0 : Option Addr) (c0 : Nat) (l0 : List Int) (w : World) (hr0 : Kd.C (Kd.int .i64) w A0 l0.length l0) (hl : l0.length * 8 < 140737488355328) :
    Calls Try.prog 56 #[.slice A0 l0.length c0] w fun e w' => ∃ v0_ : Value, e = .returned (v0_) ∧ Kd.R (Kd.int .i64) 3 w' w.heap.size (fun _ => True) v0_ l0 ∧ Below w.heap.size w w' := by
  have q : ∀ (w : World) (a : Option Addr) (n c n' c' : Nat), (binOp .eql 27 (.slice a n c) (.slice none n' c')).run Try.prog w = .ok (.bool a.isNone) w := fun w a n c n' c' => Lib.run_eql_slice_nil w _ _ a n c n' c' Try.underlying27
  cases A0 with
  | none =>
    obtain rfl := C_nil_eq hr0
    go_enter Try.func56, Try.ntmps56
    go_wp2
    go_ret
    exact ⟨_, rfl, Kd.R_nil _ _ _ _ _, Below.refl _ _⟩
  | some ad =>
    have HR := Aside0.mk hr0
    have HL := Aside0.mk hl
    clear hr0 hl
    go_enter Try.func56, Try.ntmps56
    go_wp2_with (at_builtin; refine Kd.R_append_rows (Kd.int .i64) (w0 := w) w.heap.size rfl (.tmp 5) (.tmp 6) 27 3 (.int .i64 0) 8 rfl Try.underlying27 info3 rfl (by decide) (by omega) (.slice (some ⟨w.heap.size, 0, none⟩) 0 0) ([] : List Int) l0 _ _ _ (fun _ => True) (fun _ => False) rfl rfl ?aO ?aR (fun _ _ h => h) (fun _ h => h.elim) ?aF ?aB ?aS ?aL ?_; (case aR => exact Kd.C_alloc HR.out _); (case aB => exact (below_alloc (Below.refl _ _) _)); (case aF => exact (fun _ _ => trivial)); (case aO => exact R_empty _ _ _ _ (Nat.le_refl _)); (case aS => simp); (case aL => have := HL.out; simp only [List.length_nil]; omega); intro v1 w1 ho hb hg hat; have HO := Aside0.mk ho; have HB := Aside0.mk hb; clear ho hb hg hat)
    go_ret
    exact ⟨_, rfl, HO.out, HB.out⟩
set_option maxHeartbeats 4000000 in
set_option maxRecDepth 100000 in
theorem cloneOp_calls (A0 : Option Addr) (c0 : Nat) (l0 : List S69) (w : World) (hr0 : Kd.C k69 w A0 l0.length l0) (hl : l0.length * 16 < 140737488355328) :
    Calls Try.prog 60 #[.slice A0 l0.length c0] w fun e w' => ∃ v0_ : Value, e = .returned (v0_) ∧ Kd.R k69 69 w' w.heap.size (fun _ => True) v0_ l0 ∧ Below w.heap.size w w' := by
  have q : ∀ (w : World) (a : Option Addr) (n c n' c' : Nat), (binOp .eql 43 (.slice a n c) (.slice none n' c')).run Try.prog w = .ok (.bool a.isNone) w := fun w a n c n' c' => Lib.run_eql_slice_nil w _ _ a n c n' c' Try.underlying43
  cases A0 with
  | none =>
    obtain rfl := C_nil_eq hr0
    go_enter Try.func60, Try.ntmps60
    go_wp2
    go_ret
    exact ⟨_, rfl, Kd.R_nil _ _ _ _ _, Below.refl _ _⟩
  | some ad =>
    have HR := Aside0.mk hr0
    have HL := Aside0.mk hl
    clear hr0 hl
    go_enter Try.func60, Try.ntmps60
    go_wp2_with (at_builtin; refine Kd.R_append_rows k69 (w0 := w) w.heap.size rfl (.tmp 5) (.tmp 6) 43 69 (.agg #[(.int .i64 0), (.int .u32 0)]) 16 rfl Try.underlying43 info69 rfl (by decide) (by omega) (.slice (some ⟨w.heap.size, 0, none⟩) 0 0) ([] : List S69) l0 _ _ _ (fun _ => True) (fun _ => False) rfl rfl ?aO ?aR (fun _ _ h => h) (fun _ h => h.elim) ?aF ?aB ?aS ?aL ?_; (case aR => exact Kd.C_alloc HR.out _); (case aB => exact (below_alloc (Below.refl _ _) _)); (case aF => exact (fun _ _ => trivial)); (case aO => exact R_empty _ _ _ _ (Nat.le_refl _)); (case aS => simp); (case aL => have := HL.out; simp only [List.length_nil]; omega); intro v1 w1 ho hb hg hat; have HO := Aside0.mk ho; have HB := Aside0.mk hb; clear ho hb hg hat)
    go_ret
    exact ⟨_, rfl, HO.out, HB.out⟩
end Go.Proofs.Ytfpkakedlapmkaa.Q
end
