/- Contracts of Go functions and plain facts, of several texts, one behind the other; no condition. -/
import Derived.Test.YtfpkakedlapmkaaMDictNewest5
import Derived.Test.YtfpkakedlapmkaaMDictNewest4
import Derived.Test.YtfpkakedlapmkaaMDictNewest2
section
set_option linter.unusedSimpArgs false
set_option linter.unusedVariables false
namespace Go.Proofs.Ytfpkakedlapmkaa.Q
open Go.RowKit Go.Proofs.YtfpkakedlapmkaaW.PrintWords Go.Proofs.YtfpkakedlapmkaaW.PrintLast Go.Proofs.YtfpkakedlapmkaaW.PrintMore
attribute [local go_sem] max2_int min2_int max_two min_two max_three min_three max_four min_four
theorem seg51 (cur : List Value) (i : Nat) (a b c d e v : Value) (h : seg cur 5 i = [a, b, c, d, e]) : seg (cur.set (i * 5 + 4) v) 5 i = [a, b, c, d, v] := by
  rw [seg_set _ 5 i 4 i _ (by decide), if_pos rfl, h]
  rfl
theorem seg51_ne (cur : List Value) (i j : Nat) (v : Value) (h : j ≠ i) : seg (cur.set (i * 5 + 4) v) 5 j = seg cur 5 j := by
  rw [seg_set _ 5 i 4 j _ (by decide), if_neg h]
theorem seg82 (cur : List Value) (i : Nat) (a b c d v : Value) (h : seg cur 4 i = [a, b, c, d]) : seg (cur.set (i * 4 + 3) v) 4 i = [a, b, c, v] := by
  rw [seg_set _ 4 i 3 i _ (by decide), if_pos rfl, h]
  rfl
theorem seg82_ne (cur : List Value) (i j : Nat) (v : Value) (h : j ≠ i) : seg (cur.set (i * 4 + 3) v) 4 j = seg cur 4 j := by
  rw [seg_set _ 4 i 3 j _ (by decide), if_neg h]
/-- The three rows of numbers. -/
def RA (b : Nat) (v0 v1 v3 : Value) (l0 l1 l3 : List Int) (W : World) : Prop := Kd.R (Kd.int .u32) 28 W b (fun _ => True) v0 l0 ∧ Kd.R (Kd.int .u8) 5 W b (fun _ => True) v1 l1 ∧ Kd.R (Kd.int .i64) 3 W b (fun _ => True) v3 l3
section
variable {b g t : Nat} {v0 v1 v3 : Value} {l0 l1 l3 : List Int} {W W' : World} {cells : Array Value}
theorem RA_below (h : RA b v0 v1 v3 l0 l1 l3 W) (hb : Below W.heap.size W W') : RA b v0 v1 v3 l0 l1 l3 W' := ⟨Kd.R_below h.1 hb, Kd.R_below h.2.1 hb, Kd.R_below h.2.2 hb⟩
theorem RA_set (h : RA b v0 v1 v3 l0 l1 l3 W) (hb : W.heap[g]? = some (.cells cells t (0, 0))) (ht : ∀ q, q ∈ [28, 5, 3] → q ≠ t) (j : Nat) (u : Value) : RA b v0 v1 v3 l0 l1 l3 (W.setCell ⟨g, j, none⟩ u) :=
  ⟨Kd.R_set h.1 hb (fun q hq => ht q (by simp [Kd.int, Kd.scalar] at hq; simp [hq])) j u, Kd.R_set h.2.1 hb (fun q hq => ht q (by simp [Kd.int, Kd.scalar] at hq; simp [hq])) j u, Kd.R_set h.2.2 hb (fun q hq => ht q (by simp [Kd.int, Kd.scalar] at hq; simp [hq])) j u⟩
end
theorem old_ne {α : Type} {d : Kd α} {e b : Nat} {W w1 : World} {v u : Value} {xs : List α} (h : Kd.R d e w1 b (fun _ => True) v xs) (hu : ∀ k, u.ownBlock = some k → k < b) : Kd.R d e w1 b (fun k => some k ≠ u.ownBlock) v xs :=
  Kd.R_mono (Kd.R_bound h) (fun k hk e => by have := hu k e.symm; have := hk.2.1; omega)
theorem S_old_ne {α : Type} {d : Kd α} {e b : Nat} {w1 : World} {v u : Value} {xs : List α} (h : Kd.S d e w1 b (fun _ => True) v xs) (hu : ∀ k, u.ownBlock = some k → k < b) : Kd.S d e w1 b (fun k => some k ≠ u.ownBlock) v xs :=
  Kd.S_mono (Kd.S_bound h) (fun k hk e => by have := hu k e.symm; have := hk.2.1; omega)
theorem setAll_S {α : Type} {d : Kd α} {e base g t : Nat} {ok : Nat → Prop} {v : Value} {xs : List α} (ht : ∀ q, q ∈ e :: d.E → q ≠ t) : ∀ (us : List Value) (i : Nat) (W : World) (cs : Array Value), W.heap[g]? = some (.cells cs t (0, 0)) → Kd.S d e W base ok v xs → Kd.S d e (setAll W g us i) base ok v xs
  | [], _, _, _, _, h => h
  | u :: us, i, W, cs, hb, h => setAll_S ht us (i + 1) _ _ (blk_put hb i u rfl) (Kd.S_set h hb ht i u)
set_option maxHeartbeats 16000000 in
set_option maxRecDepth 100000 in
theorem dcopy_calls (A0 : Option Addr) (c0 : Nat) (l0 : List Int) (A1 : Option Addr) (c1 : Nat) (l1 : List Int) (A2 : Option Addr) (c2 : Nat) (l2 : List S51) (A3 : Option Addr) (c3 : Nat) (l3 : List Int) (a4 : Int) (A5 : Option Addr) (c5 : Nat) (l5 : List S91) (a6 : Int) (A7 : Option Addr) (c7 : Nat) (l7 : List S82) (a8 : Int) (a9 : ByteArray) (w : World) (hr0 : Kd.C (Kd.int .u32) w A0 l0.length l0) (hr1 : Kd.C (Kd.int .u8) w A1 l1.length l1) (hr2 : Kd.C k51 w A2 l2.length l2) (hr3 : Kd.C (Kd.int .i64) w A3 l3.length l3) (hr5 : Kd.C k91 w A5 l5.length l5) (hc5 : l5.length ≤ c5) (hr7 : Kd.C k82 w A7 l7.length l7)
    (hl0 : l0.length * 4 < 140737488355328) (hl1 : l1.length * 1 < 140737488355328) (hl2 : l2.length * 64 < 140737488355328) (hl3 : l3.length * 8 < 140737488355328) (hl5 : l5.length * 96 < 140737488355328) (hG5 : ∀ x ∈ l5, G91 x) (hl7 : l7.length * 56 < 140737488355328) (hG2 : ∀ x ∈ l2, x.f4.length * 16 < 140737488355328) (hG7 : ∀ x ∈ l7, x.f3.length * 4 < 140737488355328) :
    Calls Try.prog 28 #[.agg #[.slice A0 l0.length c0, .slice A1 l1.length c1, .slice A2 l2.length c2, .slice A3 l3.length c3, .int .u32 a4, .slice A5 l5.length c5, .int .i64 a6, .slice A7 l7.length c7, .int .i64 a8, .string a9]] w fun e w' => ∃ v0_ v1_ v2_ v3_ v5_ v7_ : Value, e = .returned (.agg #[v0_, v1_, v2_, v3_, .int .u32 a4, v5_, .int .i64 a6, v7_, .int .i64 a8, .string a9]) ∧ Kd.R (Kd.int .u32) 28 w' w.heap.size (fun _ => True) v0_ l0 ∧ Kd.R (Kd.int .u8) 5 w' w.heap.size (fun _ => True) v1_ l1 ∧ Kd.S k51 51 w' w.heap.size (fun _ => True) v2_ l2 ∧ Kd.R (Kd.int .i64) 3 w' w.heap.size (fun _ => True) v3_ l3 ∧ Kd.R k91 91 w' w.heap.size (fun k_ => some k_ ≠ (v0_ : Value).ownBlock ∧ some k_ ≠ (v1_ : Value).ownBlock) v5_ l5 ∧ Kd.S k82 82 w' w.heap.size (fun k_ => some k_ ≠ (v0_ : Value).ownBlock) v7_ l7 ∧ Below w.heap.size w w' := by
  have hu32 := Try.underlying32
  have hu51 := Try.underlying51
  have hu82 := Try.underlying82
  have mixed : Try.prog.follows Departure.mixedOrders = true := by kernel_rfl
  obtain ⟨css2, hcl2, hck2r, hck2⟩ := C_raw hr2
  obtain ⟨css7, hcl7, hck7r, hck7⟩ := C_raw hr7
  rw [← hcl2] at hck2r
  rw [← hcl7] at hck7r
  have HCL2 := Aside0.mk hcl2
  have HCL7 := Aside0.mk hcl7
  have HCK2 := Aside0.mk hck2
  have HCK7 := Aside0.mk hck7
  have HG2 := Aside0.mk hG2
  have HG7 := Aside0.mk hG7
  have HL2 := Aside0.mk hl2
  have HL7 := Aside0.mk hl7
  have HC0 := Aside0.mk (fun (X : World) (hX : Below w.heap.size w X) => cloneU32_calls A0 c0 l0 X (Kd.C_below hr0 hX) hl0)
  have HC1 := Aside0.mk (fun (X : World) (hX : Below w.heap.size w X) => cloneByte_calls A1 c1 l1 X (Kd.C_below hr1 hX) hl1)
  have HC3 := Aside0.mk (fun (X : World) (hX : Below w.heap.size w X) => cloneI64_calls A3 c3 l3 X (Kd.C_below hr3 hX) hl3)
  have HC2 := Aside0.mk (show ∀ (X : World), Below w.heap.size w X → Calls Try.prog 57 #[.slice A2 l2.length c2] X fun e w' => ∃ v0_ : Value, e = .returned (v0_) ∧ Kd.R (Kd.raw 5) 51 w' X.heap.size (fun _ => True) v0_ css2 ∧ Below X.heap.size X w' from fun X hX => by
    have h := cloneWord_calls A2 c2 css2 X (Kd.C_below hck2r hX) (by rw [hcl2]; exact hl2)
    rw [hcl2] at h
    exact h)
  have HC7 := Aside0.mk (show ∀ (X : World), Below w.heap.size w X → Calls Try.prog 58 #[.slice A7 l7.length c7] X fun e w' => ∃ v0_ : Value, e = .returned (v0_) ∧ Kd.R (Kd.raw 4) 82 w' X.heap.size (fun _ => True) v0_ css7 ∧ Below X.heap.size X w' from fun X hX => by
    have h := cloneInst_calls A7 c7 css7 X (Kd.C_below hck7r hX) (by rw [hcl7]; exact hl7)
    rw [hcl7] at h
    exact h)
  have HC5 := Aside0.mk (fun (X : World) (hX : Below w.heap.size w X) => treeCopy_calls A5 c5 l5 X (Kd.C_below hr5 hX) hc5 hl5 hG5)
  clear hr0 hr1 hr2 hr3 hr5 hc5 hr7 hcl2 hck2r hck2 hcl7 hck7r hck7 hl0 hl1 hl2 hl3 hl5 hl7 hG2 hG5 hG7
  obtain ⟨gm, hgm⟩ : ∃ gm, gm = w.heap.size := ⟨_, rfl⟩
  obtain ⟨gr, hgr⟩ : ∃ gr, gr = w.heap.size + 1 := ⟨_, rfl⟩
  go_enter Try.func28, Try.ntmps28
  go_wp2
  obtain ⟨W0, hW0⟩ : ∃ W0, W0 = (w.alloc (.cells #[.slice A0 l0.length c0, .slice A1 l1.length c1, .slice A2 l2.length c2, .slice A3 l3.length c3, .int .u32 a4, .slice A5 l5.length c5, .int .i64 a6, .slice A7 l7.length c7, .int .i64 a8, .string a9] 32)).alloc (.cells #[.slice none 0 0, .slice none 0 0, .slice none 0 0, .slice none 0 0, .int .u32 0, .slice none 0 0, .int .i64 0, .slice none 0 0, .int .i64 0, .string ⟨#[]⟩] 32) := ⟨_, rfl⟩
  have b0 : W0.heap[gm]? = some (.cells #[.slice A0 l0.length c0, .slice A1 l1.length c1, .slice A2 l2.length c2, .slice A3 l3.length c3, .int .u32 a4, .slice A5 l5.length c5, .int .i64 a6, .slice A7 l7.length c7, .int .i64 a8, .string a9] 32 (0, 0)) := by rw [hW0, hgm]; exact blk_alloc (blk_new w _) _
  have b1 : W0.heap[gr]? = some (.cells #[.slice none 0 0, .slice none 0 0, .slice none 0 0, .slice none 0 0, .int .u32 0, .slice none 0 0, .int .i64 0, .slice none 0 0, .int .i64 0, .string ⟨#[]⟩] 32 (0, 0)) := by
    rw [hW0, hgr]
    have h := blk_new (w.alloc (.cells #[.slice A0 l0.length c0, .slice A1 l1.length c1, .slice A2 l2.length c2, .slice A3 l3.length c3, .int .u32 a4, .slice A5 l5.length c5, .int .i64 a6, .slice A7 l7.length c7, .int .i64 a8, .string a9] 32)) (.cells #[.slice none 0 0, .slice none 0 0, .slice none 0 0, .slice none 0 0, .int .u32 0, .slice none 0 0, .int .i64 0, .slice none 0 0, .int .i64 0, .string ⟨#[]⟩] 32)
    rw [World.size_alloc] at h
    exact h
  have hB0 : Below w.heap.size w W0 := by rw [hW0]; exact below_alloc (below_alloc (Below.refl _ _) _) _
  rw [← hW0]
  rw [← hgr]
  rw [← hgm]
  clear hW0
  have HB0 := Aside0.mk hB0
  have BM0 := Aside0.mk b0
  have BR0 := Aside0.mk b1
  have HGM := Aside0.mk (show w.heap.size ≤ gm by omega)
  have HNE := Aside0.mk (show gr ≠ gm by omega)
  have HGR := Aside0.mk (show w.heap.size ≤ gr by omega)
  clear hB0 b0 b1 hgm hgr
  have hy0 : W0.cell? ⟨gm, 0, none⟩ = some (.slice A0 l0.length c0) := (blk_cell BM0.out 0).trans rfl
  have hy1 : W0.cell? ⟨gm, 1, none⟩ = some (.slice A1 l1.length c1) := (blk_cell BM0.out 1).trans rfl
  have hy3 : W0.cell? ⟨gm, 3, none⟩ = some (.slice A3 l3.length c3) := (blk_cell BM0.out 3).trans rfl
  refine start_ (n := 15) (S := fun w' => w'.cell? ⟨gm, 0, none⟩ = some (.slice A0 l0.length c0) ∧ w'.cell? ⟨gm, 1, none⟩ = some (.slice A1 l1.length c1) ∧ w'.cell? ⟨gm, 3, none⟩ = some (.slice A3 l3.length c3) ∧ Below W0.heap.size W0 w') (ds := [10, 12, 14]) #[false, false, false, false, false, false, false, false, false, false, false, false, false, false, false] (by kernel_rfl) rfl rfl ⟨hy0, hy1, hy3, below_drew1 (Below.refl W0.heap.size W0)⟩ (fun hHeld => ?_)
  refine pure_ (i := 0) (N := some 5) (v := ?_) (a' := ?_) #[true, false, false, false, false, false, false, false, false, false, false, false, false, false, false] rfl rfl (by kernel_rfl) (fun _ _ _ h => h) (Or.inl ⟨by rfl, ?_⟩) ?_ ?_
  rotate_left
  · intro w'
    go_simp
    with_reducible rfl
  rotate_left
  · simp only [Act.put, List.setIfInBounds_toArray, List.set_cons_zero, List.set_cons_succ]
    rfl
  refine pure_ (i := 3) (N := some 8) (v := ?_) (a' := ?_) #[true, false, false, true, false, false, false, false, false, false, false, false, false, false, false] rfl rfl (by kernel_rfl) (fun _ _ _ h => h) (Or.inl ⟨by rfl, ?_⟩) ?_ ?_
  rotate_left
  · intro w'
    go_simp
    with_reducible rfl
  rotate_left
  · simp only [Act.put, List.setIfInBounds_toArray, List.set_cons_zero, List.set_cons_succ]
    rfl
  refine pure_ (i := 6) (N := some 11) (v := ?_) (a' := ?_) #[true, false, false, true, false, false, true, false, false, false, false, false, false, false, false] rfl rfl (by kernel_rfl) (fun _ _ _ h => h) (Or.inl ⟨by rfl, ?_⟩) ?_ ?_
  rotate_left
  · intro w'
    go_simp
    with_reducible rfl
  rotate_left
  · simp only [Act.put, List.setIfInBounds_toArray, List.set_cons_zero, List.set_cons_succ]
    rfl
  refine take_ (i := 1) (N := some 6) (v := (.slice A0 l0.length c0)) (a' := ?_) #[true, true, false, true, false, false, true, false, false, false, false, false, false, false, false] rfl rfl (by kernel_rfl) (fun _ _ _ h => h) (Or.inl ⟨by rfl, ?_⟩) hHeld ?_ ?_
  rotate_left
  rotate_left
  · simp only [Act.put, List.setIfInBounds_toArray, List.set_cons_zero, List.set_cons_succ]
    rfl
  rotate_left
  · rintro w' ⟨s0, s1, s2, s3⟩
    go_simp
  refine take_ (i := 4) (N := some 9) (v := (.slice A1 l1.length c1)) (a' := ?_) #[true, true, false, true, true, false, true, false, false, false, false, false, false, false, false] rfl rfl (by kernel_rfl) (fun _ _ _ h => h) (Or.inl ⟨by rfl, ?_⟩) hHeld ?_ ?_
  rotate_left
  rotate_left
  · simp only [Act.put, List.setIfInBounds_toArray, List.set_cons_zero, List.set_cons_succ]
    rfl
  rotate_left
  · rintro w' ⟨s0, s1, s2, s3⟩
    go_simp
  refine take_ (i := 7) (N := some 12) (v := (.slice A3 l3.length c3)) (a' := ?_) #[true, true, false, true, true, false, true, true, false, false, false, false, false, false, false] rfl rfl (by kernel_rfl) (fun _ _ _ h => h) (Or.inl ⟨by rfl, ?_⟩) hHeld ?_ ?_
  rotate_left
  rotate_left
  · simp only [Act.put, List.setIfInBounds_toArray, List.set_cons_zero, List.set_cons_succ]
    rfl
  rotate_left
  · rintro w' ⟨s0, s1, s2, s3⟩
    go_simp
  refine one_ (i := 2) (N := some 7) #[true, true, true, true, true, false, true, true, false, false, false, false, false, false, false] rfl rfl (by kernel_rfl) (by decide) (fun K hK => ?_)
  refine goes_ Try.func54 (by kernel_rfl) rfl #[.slice A0 l0.length c0] (by rfl) rfl rfl (by first | rfl | (simp only [List.map_toArray, List.map_cons, List.map_nil]; rfl)) ?_
  refine (HC0.out _ (below_step HB0.out hHeld.2.2.2)).mono ?_
  rintro e w2 ⟨v0, rfl, ho, hb⟩
  obtain ⟨B0, b0, rfl⟩ := Kd.R_slice ho
  have HO0 := Aside0.mk (Kd.R_lower ho (below_step HB0.out hHeld.2.2.2).size)
  refine ⟨_, rfl, hK.out _ _ ⟨cell_step hHeld.1 hb, cell_step hHeld.2.1 hb, cell_step hHeld.2.2.1 hb, below_step hHeld.2.2.2 hb⟩ (fun hHeld => ?_)⟩
  clear ho hb
  clear hK K
  simp only [Act.put, List.setIfInBounds_toArray, List.set_cons_zero, List.set_cons_succ]
  refine pure_ (i := 9) (N := some 14) (v := ?_) (a' := ?_) #[true, true, true, true, true, false, true, true, false, true, false, false, false, false, false] rfl rfl (by kernel_rfl) (fun _ _ _ h => h) (Or.inl ⟨by rfl, ?_⟩) ?_ ?_
  rotate_left
  · intro w'
    go_simp
    with_reducible rfl
  rotate_left
  · simp only [Act.put, List.setIfInBounds_toArray, List.set_cons_zero, List.set_cons_succ]
    rfl
  refine one_ (i := 5) (N := some 10) #[true, true, true, true, true, true, true, true, false, true, false, false, false, false, false] rfl rfl (by kernel_rfl) (by decide) (fun K hK => ?_)
  refine goes_ Try.func55 (by kernel_rfl) rfl #[.slice A1 l1.length c1] (by rfl) rfl rfl (by first | rfl | (simp only [List.map_toArray, List.map_cons, List.map_nil]; rfl)) ?_
  refine (HC1.out _ (below_step HB0.out hHeld.2.2.2)).mono ?_
  rintro e w3 ⟨v1, rfl, ho, hb⟩
  obtain ⟨B1, b1, rfl⟩ := Kd.R_slice ho
  have HO1 := Aside0.mk (Kd.R_lower ho (below_step HB0.out hHeld.2.2.2).size)
  replace HO0 := Aside0.mk (Kd.R_below HO0.out hb)
  refine ⟨_, rfl, hK.out _ _ ⟨cell_step hHeld.1 hb, cell_step hHeld.2.1 hb, cell_step hHeld.2.2.1 hb, below_step hHeld.2.2.2 hb⟩ (fun hHeld => ?_)⟩
  clear ho hb
  clear hK K
  simp only [Act.put, List.setIfInBounds_toArray, List.set_cons_zero, List.set_cons_succ]
  refine one_ (i := 8) (N := some 13) #[true, true, true, true, true, true, true, true, true, true, false, false, false, false, false] rfl rfl (by kernel_rfl) (by decide) (fun K hK => ?_)
  refine goes_ Try.func56 (by kernel_rfl) rfl #[.slice A3 l3.length c3] (by rfl) rfl rfl (by first | rfl | (simp only [List.map_toArray, List.map_cons, List.map_nil]; rfl)) ?_
  refine (HC3.out _ (below_step HB0.out hHeld.2.2.2)).mono ?_
  rintro e w4 ⟨v3, rfl, ho, hb⟩
  obtain ⟨B3, b3, rfl⟩ := Kd.R_slice ho
  have HO3 := Aside0.mk (Kd.R_lower ho (below_step HB0.out hHeld.2.2.2).size)
  replace HO0 := Aside0.mk (Kd.R_below HO0.out hb)
  replace HO1 := Aside0.mk (Kd.R_below HO1.out hb)
  refine ⟨_, rfl, hK.out _ _ ⟨cell_step hHeld.1 hb, cell_step hHeld.2.1 hb, cell_step hHeld.2.2.1 hb, below_step hHeld.2.2.2 hb⟩ (fun hHeld => ?_)⟩
  clear ho hb
  clear hK K
  simp only [Act.put, List.setIfInBounds_toArray, List.set_cons_zero, List.set_cons_succ]
  have hm4 : w4.heap[gm]? = some (.cells #[.slice A0 l0.length c0, .slice A1 l1.length c1, .slice A2 l2.length c2, .slice A3 l3.length c3, .int .u32 a4, .slice A5 l5.length c5, .int .i64 a6, .slice A7 l7.length c7, .int .i64 a8, .string a9] 32 (0, 0)) := (hHeld.2.2.2.block gm (blk_lt BM0.out)).trans BM0.out
  have BM := Aside0.mk hm4
  have BR := Aside0.mk ((hHeld.2.2.2.block gr (blk_lt BR0.out)).trans BR0.out)
  have HBB := Aside0.mk (below_step HB0.out hHeld.2.2.2)
  clear hm4 hHeld hy0 hy1 hy3
  refine last_ (i := 10) (N := none) #[true, true, true, true, true, true, true, true, true, true, true, false, false, false, false] rfl rfl (by kernel_rfl) (by decide) (fun K hK => ?_)
  have hyo : w4.cell? ⟨gm, 0, none⟩ = some (.slice A0 l0.length c0) := (blk_cell BM.out 0).trans rfl
  have hfo := blk_frozen BM.out 0
  refine skip_ (w1 := ?_) (by rfl) rfl ?_ ?_
  rotate_left
  · go_simp
    rfl
  refine hK.out _ _ ?_
  obtain ⟨w5, hw5⟩ : ∃ X, X = w4.setCell ⟨gm, 0, none⟩ (.slice B0 l0.length b0) := ⟨_, rfl⟩
  have BMn : w5.heap[gm]? = some (.cells #[.slice B0 l0.length b0, .slice A1 l1.length c1, .slice A2 l2.length c2, .slice A3 l3.length c3, .int .u32 a4, .slice A5 l5.length c5, .int .i64 a6, .slice A7 l7.length c7, .int .i64 a8, .string a9] 32 (0, 0)) := by rw [hw5]; exact blk_put BM.out 0 _ rfl
  have BRn : w5.heap[gr]? = some (.cells #[.slice none 0 0, .slice none 0 0, .slice none 0 0, .slice none 0 0, .int .u32 0, .slice none 0 0, .int .i64 0, .slice none 0 0, .int .i64 0, .string ⟨#[]⟩] 32 (0, 0)) := by rw [hw5]; exact (Below.heap_setCell _ _ _ gr HNE.out).trans BR.out
  have HBn : Below w.heap.size w w5 := by rw [hw5]; exact below_set HBB.out HGM.out
  replace HO0 := Aside0.mk (show Kd.R (Kd.int .u32) 28 w5 w.heap.size (fun _ => True) (.slice B0 l0.length b0) l0 by rw [hw5]; exact Kd.R_set HO0.out BM.out (by decide) 0 _)
  replace HO1 := Aside0.mk (show Kd.R (Kd.int .u8) 5 w5 w.heap.size (fun _ => True) (.slice B1 l1.length b1) l1 by rw [hw5]; exact Kd.R_set HO1.out BM.out (by decide) 0 _)
  replace HO3 := Aside0.mk (show Kd.R (Kd.int .i64) 3 w5 w.heap.size (fun _ => True) (.slice B3 l3.length b3) l3 by rw [hw5]; exact Kd.R_set HO3.out BM.out (by decide) 0 _)
  rw [← hw5]
  clear hyo hfo hK K hw5 BM BR HBB
  have BM := Aside0.mk BMn
  have BR := Aside0.mk BRn
  have HBB := Aside0.mk HBn
  clear BMn BRn HBn
  refine pure_ (i := 11) (N := some 15) (v := ?_) (a' := ?_) #[true, true, true, true, true, true, true, true, true, true, true, true, false, false, false] rfl rfl (by kernel_rfl) (fun _ _ _ h => h) (Or.inl ⟨by rfl, ?_⟩) ?_ ?_
  rotate_left
  · intro w'
    go_simp
    with_reducible rfl
  rotate_left
  · simp only [Act.put, List.setIfInBounds_toArray, List.set_cons_zero, List.set_cons_succ]
    rfl
  refine last_ (i := 12) (N := none) #[true, true, true, true, true, true, true, true, true, true, true, true, true, false, false] rfl rfl (by kernel_rfl) (by decide) (fun K hK => ?_)
  have hyo : w5.cell? ⟨gm, 1, none⟩ = some (.slice A1 l1.length c1) := (blk_cell BM.out 1).trans rfl
  have hfo := blk_frozen BM.out 1
  refine skip_ (w1 := ?_) (by rfl) rfl ?_ ?_
  rotate_left
  · go_simp
    rfl
  refine hK.out _ _ ?_
  obtain ⟨w6, hw6⟩ : ∃ X, X = w5.setCell ⟨gm, 1, none⟩ (.slice B1 l1.length b1) := ⟨_, rfl⟩
  have BMn : w6.heap[gm]? = some (.cells #[.slice B0 l0.length b0, .slice B1 l1.length b1, .slice A2 l2.length c2, .slice A3 l3.length c3, .int .u32 a4, .slice A5 l5.length c5, .int .i64 a6, .slice A7 l7.length c7, .int .i64 a8, .string a9] 32 (0, 0)) := by rw [hw6]; exact blk_put BM.out 1 _ rfl
  have BRn : w6.heap[gr]? = some (.cells #[.slice none 0 0, .slice none 0 0, .slice none 0 0, .slice none 0 0, .int .u32 0, .slice none 0 0, .int .i64 0, .slice none 0 0, .int .i64 0, .string ⟨#[]⟩] 32 (0, 0)) := by rw [hw6]; exact (Below.heap_setCell _ _ _ gr HNE.out).trans BR.out
  have HBn : Below w.heap.size w w6 := by rw [hw6]; exact below_set HBB.out HGM.out
  replace HO0 := Aside0.mk (show Kd.R (Kd.int .u32) 28 w6 w.heap.size (fun _ => True) (.slice B0 l0.length b0) l0 by rw [hw6]; exact Kd.R_set HO0.out BM.out (by decide) 1 _)
  replace HO1 := Aside0.mk (show Kd.R (Kd.int .u8) 5 w6 w.heap.size (fun _ => True) (.slice B1 l1.length b1) l1 by rw [hw6]; exact Kd.R_set HO1.out BM.out (by decide) 1 _)
  replace HO3 := Aside0.mk (show Kd.R (Kd.int .i64) 3 w6 w.heap.size (fun _ => True) (.slice B3 l3.length b3) l3 by rw [hw6]; exact Kd.R_set HO3.out BM.out (by decide) 1 _)
  rw [← hw6]
  clear hyo hfo hK K hw6 BM BR HBB
  have BM := Aside0.mk BMn
  have BR := Aside0.mk BRn
  have HBB := Aside0.mk HBn
  clear BMn BRn HBn
  refine pure_ (i := 13) (N := some 16) (v := ?_) (a' := ?_) #[true, true, true, true, true, true, true, true, true, true, true, true, true, true, false] rfl rfl (by kernel_rfl) (fun _ _ _ h => h) (Or.inl ⟨by rfl, ?_⟩) ?_ ?_
  rotate_left
  · intro w'
    go_simp
    with_reducible rfl
  rotate_left
  · simp only [Act.put, List.setIfInBounds_toArray, List.set_cons_zero, List.set_cons_succ]
    rfl
  refine last_ (i := 14) (N := none) #[true, true, true, true, true, true, true, true, true, true, true, true, true, true, true] rfl rfl (by kernel_rfl) (by decide) (fun K hK => ?_)
  have hyo : w6.cell? ⟨gm, 3, none⟩ = some (.slice A3 l3.length c3) := (blk_cell BM.out 3).trans rfl
  have hfo := blk_frozen BM.out 3
  refine skip_ (w1 := ?_) (by rfl) rfl ?_ ?_
  rotate_left
  · go_simp
    rfl
  refine hK.out _ _ ?_
  obtain ⟨w7, hw7⟩ : ∃ X, X = w6.setCell ⟨gm, 3, none⟩ (.slice B3 l3.length b3) := ⟨_, rfl⟩
  have BMn : w7.heap[gm]? = some (.cells #[.slice B0 l0.length b0, .slice B1 l1.length b1, .slice A2 l2.length c2, .slice B3 l3.length b3, .int .u32 a4, .slice A5 l5.length c5, .int .i64 a6, .slice A7 l7.length c7, .int .i64 a8, .string a9] 32 (0, 0)) := by rw [hw7]; exact blk_put BM.out 3 _ rfl
  have BRn : w7.heap[gr]? = some (.cells #[.slice none 0 0, .slice none 0 0, .slice none 0 0, .slice none 0 0, .int .u32 0, .slice none 0 0, .int .i64 0, .slice none 0 0, .int .i64 0, .string ⟨#[]⟩] 32 (0, 0)) := by rw [hw7]; exact (Below.heap_setCell _ _ _ gr HNE.out).trans BR.out
  have HBn : Below w.heap.size w w7 := by rw [hw7]; exact below_set HBB.out HGM.out
  replace HO0 := Aside0.mk (show Kd.R (Kd.int .u32) 28 w7 w.heap.size (fun _ => True) (.slice B0 l0.length b0) l0 by rw [hw7]; exact Kd.R_set HO0.out BM.out (by decide) 3 _)
  replace HO1 := Aside0.mk (show Kd.R (Kd.int .u8) 5 w7 w.heap.size (fun _ => True) (.slice B1 l1.length b1) l1 by rw [hw7]; exact Kd.R_set HO1.out BM.out (by decide) 3 _)
  replace HO3 := Aside0.mk (show Kd.R (Kd.int .i64) 3 w7 w.heap.size (fun _ => True) (.slice B3 l3.length b3) l3 by rw [hw7]; exact Kd.R_set HO3.out BM.out (by decide) 3 _)
  rw [← hw7]
  clear hyo hfo hK K hw7 BM BR HBB
  have BM := Aside0.mk BMn
  have BR := Aside0.mk BRn
  have HBB := Aside0.mk HBn
  clear BMn BRn HBn
  refine done_ (n := 0) (by kernel_rfl) ?_
  have BM1 := BM
  have BR1 := BR
  have HB1 := HBB
  clear BM BR HBB
  go_wp2
  have hy2 : w7.cell? ⟨gm, 2, none⟩ = some (.slice A2 l2.length c2) := (blk_cell BM1.out 2).trans rfl
  have hy7 : w7.cell? ⟨gm, 7, none⟩ = some (.slice A7 l7.length c7) := (blk_cell BM1.out 7).trans rfl
  have hy5 : w7.cell? ⟨gm, 5, none⟩ = some (.slice A5 l5.length c5) := (blk_cell BM1.out 5).trans rfl
  replace HO0 := Aside0.mk (Kd.R_drew HO0.out)
  replace HO1 := Aside0.mk (Kd.R_drew HO1.out)
  replace HO3 := Aside0.mk (Kd.R_drew HO3.out)
  refine start_ (n := 15) (S := fun w' => w'.cell? ⟨gm, 2, none⟩ = some (.slice A2 l2.length c2) ∧ w'.cell? ⟨gm, 7, none⟩ = some (.slice A7 l7.length c7) ∧ w'.cell? ⟨gm, 5, none⟩ = some (.slice A5 l5.length c5) ∧ Below w7.heap.size w7 w') (ds := [10, 12, 14]) #[false, false, false, false, false, false, false, false, false, false, false, false, false, false, false] (by kernel_rfl) rfl rfl ⟨hy2, hy7, hy5, below_drew1 (Below.refl w7.heap.size w7)⟩ (fun hHeld => ?_)
  refine pure_ (i := 0) (N := some 17) (v := ?_) (a' := ?_) #[true, false, false, false, false, false, false, false, false, false, false, false, false, false, false] rfl rfl (by kernel_rfl) (fun _ _ _ h => h) (Or.inl ⟨by rfl, ?_⟩) ?_ ?_
  rotate_left
  · intro w'
    go_simp
    with_reducible rfl
  rotate_left
  · simp only [Act.put, List.setIfInBounds_toArray, List.set_cons_zero, List.set_cons_succ]
    rfl
  refine pure_ (i := 3) (N := some 20) (v := ?_) (a' := ?_) #[true, false, false, true, false, false, false, false, false, false, false, false, false, false, false] rfl rfl (by kernel_rfl) (fun _ _ _ h => h) (Or.inl ⟨by rfl, ?_⟩) ?_ ?_
  rotate_left
  · intro w'
    go_simp
    with_reducible rfl
  rotate_left
  · simp only [Act.put, List.setIfInBounds_toArray, List.set_cons_zero, List.set_cons_succ]
    rfl
  refine pure_ (i := 6) (N := some 23) (v := ?_) (a' := ?_) #[true, false, false, true, false, false, true, false, false, false, false, false, false, false, false] rfl rfl (by kernel_rfl) (fun _ _ _ h => h) (Or.inl ⟨by rfl, ?_⟩) ?_ ?_
  rotate_left
  · intro w'
    go_simp
    with_reducible rfl
  rotate_left
  · simp only [Act.put, List.setIfInBounds_toArray, List.set_cons_zero, List.set_cons_succ]
    rfl
  refine take_ (i := 1) (N := some 18) (v := (.slice A2 l2.length c2)) (a' := ?_) #[true, true, false, true, false, false, true, false, false, false, false, false, false, false, false] rfl rfl (by kernel_rfl) (fun _ _ _ h => h) (Or.inl ⟨by rfl, ?_⟩) hHeld ?_ ?_
  rotate_left
  rotate_left
  · simp only [Act.put, List.setIfInBounds_toArray, List.set_cons_zero, List.set_cons_succ]
    rfl
  rotate_left
  · rintro w' ⟨s0, s1, s2, s3⟩
    go_simp
  refine take_ (i := 4) (N := some 21) (v := (.slice A7 l7.length c7)) (a' := ?_) #[true, true, false, true, true, false, true, false, false, false, false, false, false, false, false] rfl rfl (by kernel_rfl) (fun _ _ _ h => h) (Or.inl ⟨by rfl, ?_⟩) hHeld ?_ ?_
  rotate_left
  rotate_left
  · simp only [Act.put, List.setIfInBounds_toArray, List.set_cons_zero, List.set_cons_succ]
    rfl
  rotate_left
  · rintro w' ⟨s0, s1, s2, s3⟩
    go_simp
  refine take_ (i := 7) (N := some 24) (v := (.slice A5 l5.length c5)) (a' := ?_) #[true, true, false, true, true, false, true, true, false, false, false, false, false, false, false] rfl rfl (by kernel_rfl) (fun _ _ _ h => h) (Or.inl ⟨by rfl, ?_⟩) hHeld ?_ ?_
  rotate_left
  rotate_left
  · simp only [Act.put, List.setIfInBounds_toArray, List.set_cons_zero, List.set_cons_succ]
    rfl
  rotate_left
  · rintro w' ⟨s0, s1, s2, s3⟩
    go_simp
  refine one_ (i := 2) (N := some 19) #[true, true, true, true, true, false, true, true, false, false, false, false, false, false, false] rfl rfl (by kernel_rfl) (by decide) (fun K hK => ?_)
  refine goes_ Try.func57 (by kernel_rfl) rfl #[.slice A2 l2.length c2] (by rfl) rfl rfl (by first | rfl | (simp only [List.map_toArray, List.map_cons, List.map_nil]; rfl)) ?_
  refine (HC2.out _ (below_step HB1.out hHeld.2.2.2)).mono ?_
  rintro e w9 ⟨v2, rfl, ho, hb⟩
  obtain ⟨B2, b2, rfl⟩ := Kd.R_slice ho
  rw [HCL2.out] at ho ⊢
  have HO2 := Aside0.mk (Kd.R_lower ho (below_step HB1.out hHeld.2.2.2).size)
  replace HO0 := Aside0.mk (Kd.R_below HO0.out hb)
  replace HO1 := Aside0.mk (Kd.R_below HO1.out hb)
  replace HO3 := Aside0.mk (Kd.R_below HO3.out hb)
  refine ⟨_, rfl, hK.out _ _ ⟨cell_step hHeld.1 hb, cell_step hHeld.2.1 hb, cell_step hHeld.2.2.1 hb, below_step hHeld.2.2.2 hb⟩ (fun hHeld => ?_)⟩
  clear ho hb
  clear hK K
  simp only [Act.put, List.setIfInBounds_toArray, List.set_cons_zero, List.set_cons_succ]
  refine pure_ (i := 9) (N := some 26) (v := ?_) (a' := ?_) #[true, true, true, true, true, false, true, true, false, true, false, false, false, false, false] rfl rfl (by kernel_rfl) (fun _ _ _ h => h) (Or.inl ⟨by rfl, ?_⟩) ?_ ?_
  rotate_left
  · intro w'
    go_simp
    with_reducible rfl
  rotate_left
  · simp only [Act.put, List.setIfInBounds_toArray, List.set_cons_zero, List.set_cons_succ]
    rfl
  refine one_ (i := 5) (N := some 22) #[true, true, true, true, true, true, true, true, false, true, false, false, false, false, false] rfl rfl (by kernel_rfl) (by decide) (fun K hK => ?_)
  refine goes_ Try.func58 (by kernel_rfl) rfl #[.slice A7 l7.length c7] (by rfl) rfl rfl (by first | rfl | (simp only [List.map_toArray, List.map_cons, List.map_nil]; rfl)) ?_
  refine (HC7.out _ (below_step HB1.out hHeld.2.2.2)).mono ?_
  rintro e w10 ⟨v7, rfl, ho, hb⟩
  obtain ⟨B7, b7, rfl⟩ := Kd.R_slice ho
  rw [HCL7.out] at ho ⊢
  have HO7 := Aside0.mk (show ∃ bI, (∀ k, (Value.slice B0 l0.length b0).ownBlock = some k → k < bI) ∧ w.heap.size ≤ bI ∧ Kd.R (Kd.raw 4) 82 _ bI (fun _ => True) (.slice B7 l7.length b7) css7 from ⟨_, fun k hk => Kd.R_lt HO0.out k hk, (below_step HB1.out hHeld.2.2.2).size, ho⟩)
  replace HO0 := Aside0.mk (Kd.R_below HO0.out hb)
  replace HO1 := Aside0.mk (Kd.R_below HO1.out hb)
  replace HO3 := Aside0.mk (Kd.R_below HO3.out hb)
  replace HO2 := Aside0.mk (Kd.R_below HO2.out hb)
  refine ⟨_, rfl, hK.out _ _ ⟨cell_step hHeld.1 hb, cell_step hHeld.2.1 hb, cell_step hHeld.2.2.1 hb, below_step hHeld.2.2.2 hb⟩ (fun hHeld => ?_)⟩
  clear ho hb
  clear hK K
  simp only [Act.put, List.setIfInBounds_toArray, List.set_cons_zero, List.set_cons_succ]
  refine one_ (i := 8) (N := some 25) #[true, true, true, true, true, true, true, true, true, true, false, false, false, false, false] rfl rfl (by kernel_rfl) (by decide) (fun K hK => ?_)
  refine goes_ Try.func59 (by kernel_rfl) rfl #[.slice A5 l5.length c5] (by rfl) rfl rfl (by first | rfl | (simp only [List.map_toArray, List.map_cons, List.map_nil]; rfl)) ?_
  refine (HC5.out _ (below_step HB1.out hHeld.2.2.2)).mono ?_
  rintro e w11 ⟨v5, rfl, ho, hb⟩
  obtain ⟨B5, b5, rfl⟩ := Kd.R_slice ho
  have HO5 := Aside0.mk (Kd.R_lower (Kd.R_mono (Kd.R_bound ho) (fun k hk => (⟨fun e => by have := Kd.R_lt HO0.out k e.symm; have := hk.2.1; omega, fun e => by have := Kd.R_lt HO1.out k e.symm; have := hk.2.1; omega⟩ : some k ≠ (Value.slice B0 l0.length b0).ownBlock ∧ some k ≠ (Value.slice B1 l1.length b1).ownBlock))) (below_step HB1.out hHeld.2.2.2).size)
  replace HO0 := Aside0.mk (Kd.R_below HO0.out hb)
  replace HO1 := Aside0.mk (Kd.R_below HO1.out hb)
  replace HO3 := Aside0.mk (Kd.R_below HO3.out hb)
  replace HO2 := Aside0.mk (Kd.R_below HO2.out hb)
  replace HO7 := Aside0.mk (match HO7.out with | ⟨bI, q1, q2, q3⟩ => (⟨bI, q1, q2, Kd.R_below q3 hb⟩ : ∃ bI, (∀ k, (Value.slice B0 l0.length b0).ownBlock = some k → k < bI) ∧ w.heap.size ≤ bI ∧ Kd.R (Kd.raw 4) 82 _ bI (fun _ => True) (.slice B7 l7.length b7) css7))
  refine ⟨_, rfl, hK.out _ _ ⟨cell_step hHeld.1 hb, cell_step hHeld.2.1 hb, cell_step hHeld.2.2.1 hb, below_step hHeld.2.2.2 hb⟩ (fun hHeld => ?_)⟩
  clear ho hb
  clear hK K
  simp only [Act.put, List.setIfInBounds_toArray, List.set_cons_zero, List.set_cons_succ]
  have hm4 : w11.heap[gm]? = some (.cells #[.slice B0 l0.length b0, .slice B1 l1.length b1, .slice A2 l2.length c2, .slice B3 l3.length b3, .int .u32 a4, .slice A5 l5.length c5, .int .i64 a6, .slice A7 l7.length c7, .int .i64 a8, .string a9] 32 (0, 0)) := (hHeld.2.2.2.block gm (blk_lt BM1.out)).trans BM1.out
  have BM := Aside0.mk hm4
  have BR := Aside0.mk ((hHeld.2.2.2.block gr (blk_lt BR1.out)).trans BR1.out)
  have HBB := Aside0.mk (below_step HB1.out hHeld.2.2.2)
  clear hm4 hHeld hy2 hy7 hy5
  refine last_ (i := 10) (N := none) #[true, true, true, true, true, true, true, true, true, true, true, false, false, false, false] rfl rfl (by kernel_rfl) (by decide) (fun K hK => ?_)
  have hyo : w11.cell? ⟨gm, 2, none⟩ = some (.slice A2 l2.length c2) := (blk_cell BM.out 2).trans rfl
  have hfo := blk_frozen BM.out 2
  refine skip_ (w1 := ?_) (by rfl) rfl ?_ ?_
  rotate_left
  · go_simp
    rfl
  refine hK.out _ _ ?_
  obtain ⟨w12, hw12⟩ : ∃ X, X = w11.setCell ⟨gm, 2, none⟩ (.slice B2 l2.length b2) := ⟨_, rfl⟩
  have BMn : w12.heap[gm]? = some (.cells #[.slice B0 l0.length b0, .slice B1 l1.length b1, .slice B2 l2.length b2, .slice B3 l3.length b3, .int .u32 a4, .slice A5 l5.length c5, .int .i64 a6, .slice A7 l7.length c7, .int .i64 a8, .string a9] 32 (0, 0)) := by rw [hw12]; exact blk_put BM.out 2 _ rfl
  have BRn : w12.heap[gr]? = some (.cells #[.slice none 0 0, .slice none 0 0, .slice none 0 0, .slice none 0 0, .int .u32 0, .slice none 0 0, .int .i64 0, .slice none 0 0, .int .i64 0, .string ⟨#[]⟩] 32 (0, 0)) := by rw [hw12]; exact (Below.heap_setCell _ _ _ gr HNE.out).trans BR.out
  have HBn : Below w.heap.size w w12 := by rw [hw12]; exact below_set HBB.out HGM.out
  replace HO0 := Aside0.mk (show Kd.R (Kd.int .u32) 28 w12 w.heap.size (fun _ => True) (.slice B0 l0.length b0) l0 by rw [hw12]; exact Kd.R_set HO0.out BM.out (by decide) 2 _)
  replace HO1 := Aside0.mk (show Kd.R (Kd.int .u8) 5 w12 w.heap.size (fun _ => True) (.slice B1 l1.length b1) l1 by rw [hw12]; exact Kd.R_set HO1.out BM.out (by decide) 2 _)
  replace HO3 := Aside0.mk (show Kd.R (Kd.int .i64) 3 w12 w.heap.size (fun _ => True) (.slice B3 l3.length b3) l3 by rw [hw12]; exact Kd.R_set HO3.out BM.out (by decide) 2 _)
  replace HO2 := Aside0.mk (show Kd.R (Kd.raw 5) 51 w12 w.heap.size (fun _ => True) (.slice B2 l2.length b2) css2 by rw [hw12]; exact Kd.R_set HO2.out BM.out (by decide) 2 _)
  replace HO7 := Aside0.mk (show ∃ bI, (∀ k, (Value.slice B0 l0.length b0).ownBlock = some k → k < bI) ∧ w.heap.size ≤ bI ∧ Kd.R (Kd.raw 4) 82 w12 bI (fun _ => True) (.slice B7 l7.length b7) css7 by rw [hw12]; obtain ⟨bI, q1, q2, q3⟩ := HO7.out; exact ⟨bI, q1, q2, Kd.R_set q3 BM.out (by decide) 2 _⟩)
  replace HO5 := Aside0.mk (show Kd.R k91 91 w12 w.heap.size (fun k_ => some k_ ≠ (Value.slice B0 l0.length b0).ownBlock ∧ some k_ ≠ (Value.slice B1 l1.length b1).ownBlock) (.slice B5 l5.length b5) l5 by rw [hw12]; exact Kd.R_set HO5.out BM.out (by decide) 2 _)
  rw [← hw12]
  clear hyo hfo hK K hw12 BM BR HBB
  have BM := Aside0.mk BMn
  have BR := Aside0.mk BRn
  have HBB := Aside0.mk HBn
  clear BMn BRn HBn
  refine pure_ (i := 11) (N := some 27) (v := ?_) (a' := ?_) #[true, true, true, true, true, true, true, true, true, true, true, true, false, false, false] rfl rfl (by kernel_rfl) (fun _ _ _ h => h) (Or.inl ⟨by rfl, ?_⟩) ?_ ?_
  rotate_left
  · intro w'
    go_simp
    with_reducible rfl
  rotate_left
  · simp only [Act.put, List.setIfInBounds_toArray, List.set_cons_zero, List.set_cons_succ]
    rfl
  refine last_ (i := 12) (N := none) #[true, true, true, true, true, true, true, true, true, true, true, true, true, false, false] rfl rfl (by kernel_rfl) (by decide) (fun K hK => ?_)
  have hyo : w12.cell? ⟨gm, 7, none⟩ = some (.slice A7 l7.length c7) := (blk_cell BM.out 7).trans rfl
  have hfo := blk_frozen BM.out 7
  refine skip_ (w1 := ?_) (by rfl) rfl ?_ ?_
  rotate_left
  · go_simp
    rfl
  refine hK.out _ _ ?_
  obtain ⟨w13, hw13⟩ : ∃ X, X = w12.setCell ⟨gm, 7, none⟩ (.slice B7 l7.length b7) := ⟨_, rfl⟩
  have BMn : w13.heap[gm]? = some (.cells #[.slice B0 l0.length b0, .slice B1 l1.length b1, .slice B2 l2.length b2, .slice B3 l3.length b3, .int .u32 a4, .slice A5 l5.length c5, .int .i64 a6, .slice B7 l7.length b7, .int .i64 a8, .string a9] 32 (0, 0)) := by rw [hw13]; exact blk_put BM.out 7 _ rfl
  have BRn : w13.heap[gr]? = some (.cells #[.slice none 0 0, .slice none 0 0, .slice none 0 0, .slice none 0 0, .int .u32 0, .slice none 0 0, .int .i64 0, .slice none 0 0, .int .i64 0, .string ⟨#[]⟩] 32 (0, 0)) := by rw [hw13]; exact (Below.heap_setCell _ _ _ gr HNE.out).trans BR.out
  have HBn : Below w.heap.size w w13 := by rw [hw13]; exact below_set HBB.out HGM.out
  replace HO0 := Aside0.mk (show Kd.R (Kd.int .u32) 28 w13 w.heap.size (fun _ => True) (.slice B0 l0.length b0) l0 by rw [hw13]; exact Kd.R_set HO0.out BM.out (by decide) 7 _)
  replace HO1 := Aside0.mk (show Kd.R (Kd.int .u8) 5 w13 w.heap.size (fun _ => True) (.slice B1 l1.length b1) l1 by rw [hw13]; exact Kd.R_set HO1.out BM.out (by decide) 7 _)
  replace HO3 := Aside0.mk (show Kd.R (Kd.int .i64) 3 w13 w.heap.size (fun _ => True) (.slice B3 l3.length b3) l3 by rw [hw13]; exact Kd.R_set HO3.out BM.out (by decide) 7 _)
  replace HO2 := Aside0.mk (show Kd.R (Kd.raw 5) 51 w13 w.heap.size (fun _ => True) (.slice B2 l2.length b2) css2 by rw [hw13]; exact Kd.R_set HO2.out BM.out (by decide) 7 _)
  replace HO7 := Aside0.mk (show ∃ bI, (∀ k, (Value.slice B0 l0.length b0).ownBlock = some k → k < bI) ∧ w.heap.size ≤ bI ∧ Kd.R (Kd.raw 4) 82 w13 bI (fun _ => True) (.slice B7 l7.length b7) css7 by rw [hw13]; obtain ⟨bI, q1, q2, q3⟩ := HO7.out; exact ⟨bI, q1, q2, Kd.R_set q3 BM.out (by decide) 7 _⟩)
  replace HO5 := Aside0.mk (show Kd.R k91 91 w13 w.heap.size (fun k_ => some k_ ≠ (Value.slice B0 l0.length b0).ownBlock ∧ some k_ ≠ (Value.slice B1 l1.length b1).ownBlock) (.slice B5 l5.length b5) l5 by rw [hw13]; exact Kd.R_set HO5.out BM.out (by decide) 7 _)
  rw [← hw13]
  clear hyo hfo hK K hw13 BM BR HBB
  have BM := Aside0.mk BMn
  have BR := Aside0.mk BRn
  have HBB := Aside0.mk HBn
  clear BMn BRn HBn
  refine pure_ (i := 13) (N := some 28) (v := ?_) (a' := ?_) #[true, true, true, true, true, true, true, true, true, true, true, true, true, true, false] rfl rfl (by kernel_rfl) (fun _ _ _ h => h) (Or.inl ⟨by rfl, ?_⟩) ?_ ?_
  rotate_left
  · intro w'
    go_simp
    with_reducible rfl
  rotate_left
  · simp only [Act.put, List.setIfInBounds_toArray, List.set_cons_zero, List.set_cons_succ]
    rfl
  refine last_ (i := 14) (N := none) #[true, true, true, true, true, true, true, true, true, true, true, true, true, true, true] rfl rfl (by kernel_rfl) (by decide) (fun K hK => ?_)
  have hyo : w13.cell? ⟨gm, 5, none⟩ = some (.slice A5 l5.length c5) := (blk_cell BM.out 5).trans rfl
  have hfo := blk_frozen BM.out 5
  refine skip_ (w1 := ?_) (by rfl) rfl ?_ ?_
  rotate_left
  · go_simp
    rfl
  refine hK.out _ _ ?_
  obtain ⟨w14, hw14⟩ : ∃ X, X = w13.setCell ⟨gm, 5, none⟩ (.slice B5 l5.length b5) := ⟨_, rfl⟩
  have BMn : w14.heap[gm]? = some (.cells #[.slice B0 l0.length b0, .slice B1 l1.length b1, .slice B2 l2.length b2, .slice B3 l3.length b3, .int .u32 a4, .slice B5 l5.length b5, .int .i64 a6, .slice B7 l7.length b7, .int .i64 a8, .string a9] 32 (0, 0)) := by rw [hw14]; exact blk_put BM.out 5 _ rfl
  have BRn : w14.heap[gr]? = some (.cells #[.slice none 0 0, .slice none 0 0, .slice none 0 0, .slice none 0 0, .int .u32 0, .slice none 0 0, .int .i64 0, .slice none 0 0, .int .i64 0, .string ⟨#[]⟩] 32 (0, 0)) := by rw [hw14]; exact (Below.heap_setCell _ _ _ gr HNE.out).trans BR.out
  have HBn : Below w.heap.size w w14 := by rw [hw14]; exact below_set HBB.out HGM.out
  replace HO0 := Aside0.mk (show Kd.R (Kd.int .u32) 28 w14 w.heap.size (fun _ => True) (.slice B0 l0.length b0) l0 by rw [hw14]; exact Kd.R_set HO0.out BM.out (by decide) 5 _)
  replace HO1 := Aside0.mk (show Kd.R (Kd.int .u8) 5 w14 w.heap.size (fun _ => True) (.slice B1 l1.length b1) l1 by rw [hw14]; exact Kd.R_set HO1.out BM.out (by decide) 5 _)
  replace HO3 := Aside0.mk (show Kd.R (Kd.int .i64) 3 w14 w.heap.size (fun _ => True) (.slice B3 l3.length b3) l3 by rw [hw14]; exact Kd.R_set HO3.out BM.out (by decide) 5 _)
  replace HO2 := Aside0.mk (show Kd.R (Kd.raw 5) 51 w14 w.heap.size (fun _ => True) (.slice B2 l2.length b2) css2 by rw [hw14]; exact Kd.R_set HO2.out BM.out (by decide) 5 _)
  replace HO7 := Aside0.mk (show ∃ bI, (∀ k, (Value.slice B0 l0.length b0).ownBlock = some k → k < bI) ∧ w.heap.size ≤ bI ∧ Kd.R (Kd.raw 4) 82 w14 bI (fun _ => True) (.slice B7 l7.length b7) css7 by rw [hw14]; obtain ⟨bI, q1, q2, q3⟩ := HO7.out; exact ⟨bI, q1, q2, Kd.R_set q3 BM.out (by decide) 5 _⟩)
  replace HO5 := Aside0.mk (show Kd.R k91 91 w14 w.heap.size (fun k_ => some k_ ≠ (Value.slice B0 l0.length b0).ownBlock ∧ some k_ ≠ (Value.slice B1 l1.length b1).ownBlock) (.slice B5 l5.length b5) l5 by rw [hw14]; exact Kd.R_set HO5.out BM.out (by decide) 5 _)
  rw [← hw14]
  clear hyo hfo hK K hw14 BM BR HBB
  have BM := Aside0.mk BMn
  have BR := Aside0.mk BRn
  have HBB := Aside0.mk HBn
  clear BMn BRn HBn
  refine done_ (n := 0) (by kernel_rfl) ?_
  have BM2 := BM
  have BR2 := BR
  have HB2 := HBB
  clear BM BR HBB
  have HRA := Aside0.mk (⟨HO0.out, HO1.out, HO3.out⟩ : RA w.heap.size (.slice B0 l0.length b0) (.slice B1 l1.length b1) (.slice B3 l3.length b3) l0 l1 l3 w14)
  have HWP := Aside0.mk (WP_start (d := k51) HO2.out HCL2.out HCK2.out)
  clear HO0 HO1 HO3 HO2 HB0 HB1 BM0 BM1 BR0 BR1 HC0 HC1 HC3 HC2 HC7 HC5 HCK2
  have hz : w14.cell? ⟨gm, 2, none⟩ = some (.slice B2 l2.length b2) := (blk_cell BM2.out 2).trans rfl
  have HO7I := HO7
  clear HO7
  go_wp2
  go_loopg [32] l2.length (fun kq v32 w' => ∃ i : Nat, v32 = .int .i64 i ∧ Aside0 (i + kq = l2.length) ∧ Aside0 (WP k51 51 w w' w.heap.size (.slice B2 l2.length b2) i l2) ∧ Aside0 (RA w.heap.size (.slice B0 l0.length b0) (.slice B1 l1.length b1) (.slice B3 l3.length b3) l0 l1 l3 w') ∧ Aside0 (Kd.R k91 91 w' w.heap.size (fun k_ => some k_ ≠ (Value.slice B0 l0.length b0).ownBlock ∧ some k_ ≠ (Value.slice B1 l1.length b1).ownBlock) (.slice B5 l5.length b5) l5) ∧ Aside0 (∃ bI, (∀ k, (Value.slice B0 l0.length b0).ownBlock = some k → k < bI) ∧ w.heap.size ≤ bI ∧ Kd.R (Kd.raw 4) 82 w' bI (fun _ => True) (.slice B7 l7.length b7) css7) ∧ Aside0 (w'.heap[gm]? = some (.cells #[.slice B0 l0.length b0, .slice B1 l1.length b1, .slice B2 l2.length b2, .slice B3 l3.length b3, .int .u32 a4, .slice B5 l5.length b5, .int .i64 a6, .slice B7 l7.length b7, .int .i64 a8, .string a9] 32 (0, 0))) ∧ Aside0 (w'.heap[gr]? = some (.cells #[.slice none 0 0, .slice none 0 0, .slice none 0 0, .slice none 0 0, .int .u32 0, .slice none 0 0, .int .i64 0, .slice none 0 0, .int .i64 0, .string ⟨#[]⟩] 32 (0, 0))) ∧ Aside0 (Below w.heap.size w w'))
  case atStart => exact ⟨0, rfl, ⟨by omega⟩, HWP, HRA, HO5, HO7I, BM2, BR2, HB2⟩
  case round =>
    clear HWP HRA HO5 HO7I BM2 BR2 HB2 hz
    obtain ⟨i, rfl, HI, HP, HRA, HO5, HO7, BM, BR, HB⟩ := hrel
    rename World => wa
    cases gk with
    | zero =>
      have hlt : decide ((i : Int) < (l2.length : Int)) = false := decide_eq_false (by have := HI.out; omega)
      have hltN : decide (i < l2.length) = false := decide_eq_false (by have := HI.out; omega)
      have HEND := Aside0.mk (WP_end (by have h := HP.out; rw [show i = l2.length by have := HI.out; omega] at h; exact h))
      have hz : wa.cell? ⟨gm, 7, none⟩ = some (.slice B7 l7.length b7) := (blk_cell BM.out 7).trans rfl
      obtain ⟨bI, q1, q2, q3⟩ := HO7.out
      have Hq1 := Aside0.mk q1
      have HbI := Aside0.mk q2
      have HWPn := Aside0.mk (WP_start (d := k82) q3 HCL7.out HCK7.out)
      clear q1 q2 q3 HP HO7 HI
      have HWP := HWPn
      have HS2I := HEND
      clear HWPn HEND
      go_wp2
      go_loopg [51] l7.length (fun kq v51 w' => ∃ i : Nat, v51 = .int .i64 i ∧ Aside0 (i + kq = l7.length) ∧ Aside0 (WP k82 82 w w' bI (.slice B7 l7.length b7) i l7) ∧ Aside0 (RA w.heap.size (.slice B0 l0.length b0) (.slice B1 l1.length b1) (.slice B3 l3.length b3) l0 l1 l3 w') ∧ Aside0 (Kd.R k91 91 w' w.heap.size (fun k_ => some k_ ≠ (Value.slice B0 l0.length b0).ownBlock ∧ some k_ ≠ (Value.slice B1 l1.length b1).ownBlock) (.slice B5 l5.length b5) l5) ∧ Aside0 (Kd.S k51 51 w' w.heap.size (fun _ => True) (.slice B2 l2.length b2) l2) ∧ Aside0 (w'.heap[gm]? = some (.cells #[.slice B0 l0.length b0, .slice B1 l1.length b1, .slice B2 l2.length b2, .slice B3 l3.length b3, .int .u32 a4, .slice B5 l5.length b5, .int .i64 a6, .slice B7 l7.length b7, .int .i64 a8, .string a9] 32 (0, 0))) ∧ Aside0 (w'.heap[gr]? = some (.cells #[.slice none 0 0, .slice none 0 0, .slice none 0 0, .slice none 0 0, .int .u32 0, .slice none 0 0, .int .i64 0, .slice none 0 0, .int .i64 0, .string ⟨#[]⟩] 32 (0, 0))) ∧ Aside0 (Below w.heap.size w w'))
      case atStart => exact ⟨0, rfl, ⟨by omega⟩, HWP, HRA, HO5, HS2I, BM, BR, HB⟩
      case round =>
        clear HWP HRA HO5 HS2I BM BR HB hz
        obtain ⟨i, rfl, HI, HP, HRA, HO5, HS2, BM, BR, HB⟩ := hrel
        rename World => wb
        cases gk with
        | zero =>
          have hlt : decide ((i : Int) < (l7.length : Int)) = false := decide_eq_false (by have := HI.out; omega)
          have hltN : decide (i < l7.length) = false := decide_eq_false (by have := HI.out; omega)
          have HEND := Aside0.mk (WP_end (by have h := HP.out; rw [show i = l7.length by have := HI.out; omega] at h; exact h))
          have hz : wb.cell? ⟨gm, 0, none⟩ = some (.slice B0 l0.length b0) := (blk_cell BM.out 0).trans rfl
          have hz1 : wb.cell? ⟨gm, 1, none⟩ = some (.slice B1 l1.length b1) := (blk_cell BM.out 1).trans rfl
          have hz2 : wb.cell? ⟨gm, 2, none⟩ = some (.slice B2 l2.length b2) := (blk_cell BM.out 2).trans rfl
          have hz3 : wb.cell? ⟨gm, 3, none⟩ = some (.slice B3 l3.length b3) := (blk_cell BM.out 3).trans rfl
          have hz4 : wb.cell? ⟨gm, 4, none⟩ = some (.int .u32 a4) := (blk_cell BM.out 4).trans rfl
          have hz5 : wb.cell? ⟨gm, 5, none⟩ = some (.slice B5 l5.length b5) := (blk_cell BM.out 5).trans rfl
          have hz6 : wb.cell? ⟨gm, 6, none⟩ = some (.int .i64 a6) := (blk_cell BM.out 6).trans rfl
          have hz7 : wb.cell? ⟨gm, 7, none⟩ = some (.slice B7 l7.length b7) := (blk_cell BM.out 7).trans rfl
          have hz8 : wb.cell? ⟨gm, 8, none⟩ = some (.int .i64 a8) := (blk_cell BM.out 8).trans rfl
          have hz9 : wb.cell? ⟨gm, 9, none⟩ = some (.string a9) := (blk_cell BM.out 9).trans rfl
          have hr0 : wb.cell? ⟨gr, 0, none⟩ = some (.slice none 0 0) := (blk_cell BR.out 0).trans rfl
          have hr1 : wb.cell? ⟨gr, 1, none⟩ = some (.slice none 0 0) := (blk_cell BR.out 1).trans rfl
          have hr2 : wb.cell? ⟨gr, 2, none⟩ = some (.slice none 0 0) := (blk_cell BR.out 2).trans rfl
          have hr3 : wb.cell? ⟨gr, 3, none⟩ = some (.slice none 0 0) := (blk_cell BR.out 3).trans rfl
          have hr4 : wb.cell? ⟨gr, 4, none⟩ = some (.int .u32 0) := (blk_cell BR.out 4).trans rfl
          have hr5 : wb.cell? ⟨gr, 5, none⟩ = some (.slice none 0 0) := (blk_cell BR.out 5).trans rfl
          have hr6 : wb.cell? ⟨gr, 6, none⟩ = some (.int .i64 0) := (blk_cell BR.out 6).trans rfl
          have hr7 : wb.cell? ⟨gr, 7, none⟩ = some (.slice none 0 0) := (blk_cell BR.out 7).trans rfl
          have hr8 : wb.cell? ⟨gr, 8, none⟩ = some (.int .i64 0) := (blk_cell BR.out 8).trans rfl
          have hr9 : wb.cell? ⟨gr, 9, none⟩ = some (.string ⟨#[]⟩) := (blk_cell BR.out 9).trans rfl
          have hf0 := blk_frozen BR.out 0
          have hf1 := blk_frozen BR.out 1
          have hf2 := blk_frozen BR.out 2
          have hf3 := blk_frozen BR.out 3
          have hf4 := blk_frozen BR.out 4
          have hf5 := blk_frozen BR.out 5
          have hf6 := blk_frozen BR.out 6
          have hf7 := blk_frozen BR.out 7
          have hf8 := blk_frozen BR.out 8
          have hf9 := blk_frozen BR.out 9
          go_wp2
          have g0 : (setAll wb gr [.slice B0 l0.length b0, .slice B1 l1.length b1, .slice B2 l2.length b2, .slice B3 l3.length b3, .int .u32 a4, .slice B5 l5.length b5, .int .i64 a6, .slice B7 l7.length b7, .int .i64 a8, .string a9] 0).heap[gr]? = some (.cells #[.slice B0 l0.length b0, .slice B1 l1.length b1, .slice B2 l2.length b2, .slice B3 l3.length b3, .int .u32 a4, .slice B5 l5.length b5, .int .i64 a6, .slice B7 l7.length b7, .int .i64 a8, .string a9] 32 (0, 0)) := by
            rw [setAll_blk [.slice B0 l0.length b0, .slice B1 l1.length b1, .slice B2 l2.length b2, .slice B3 l3.length b3, .int .u32 a4, .slice B5 l5.length b5, .int .i64 a6, .slice B7 l7.length b7, .int .i64 a8, .string a9] 0 wb _ BR.out]
            simp [setA]
          have HS7 : Kd.S k82 82 wb w.heap.size (fun k_ => some k_ ≠ (Value.slice B0 l0.length b0).ownBlock) (.slice B7 l7.length b7) l7 := Kd.S_lower (S_old_ne HEND.out Hq1.out) HbI.out
          refine bodyPost_ret (v := .agg #[.slice B0 l0.length b0, .slice B1 l1.length b1, .slice B2 l2.length b2, .slice B3 l3.length b3, .int .u32 a4, .slice B5 l5.length b5, .int .i64 a6, .slice B7 l7.length b7, .int .i64 a8, .string a9]) (results_cell_row Try.results28 _ _ gr 32 #[.slice B0 l0.length b0, .slice B1 l1.length b1, .slice B2 l2.length b2, .slice B3 l3.length b3, .int .u32 a4, .slice B5 l5.length b5, .int .i64 a6, .slice B7 l7.length b7, .int .i64 a8, .string a9] (0, 0) _ rfl g0 hu32 rfl (by kernel_rfl)) rfl ⟨.slice B0 l0.length b0, .slice B1 l1.length b1, .slice B2 l2.length b2, .slice B3 l3.length b3, .slice B5 l5.length b5, .slice B7 l7.length b7, rfl, ?_, ?_, ?_, ?_, ?_, ?_, ?_⟩
          · exact setAll_R (by decide) [.slice B0 l0.length b0, .slice B1 l1.length b1, .slice B2 l2.length b2, .slice B3 l3.length b3, .int .u32 a4, .slice B5 l5.length b5, .int .i64 a6, .slice B7 l7.length b7, .int .i64 a8, .string a9] 0 wb _ BR.out HRA.out.1
          · exact setAll_R (by decide) [.slice B0 l0.length b0, .slice B1 l1.length b1, .slice B2 l2.length b2, .slice B3 l3.length b3, .int .u32 a4, .slice B5 l5.length b5, .int .i64 a6, .slice B7 l7.length b7, .int .i64 a8, .string a9] 0 wb _ BR.out HRA.out.2.1
          · exact setAll_S (by decide) [.slice B0 l0.length b0, .slice B1 l1.length b1, .slice B2 l2.length b2, .slice B3 l3.length b3, .int .u32 a4, .slice B5 l5.length b5, .int .i64 a6, .slice B7 l7.length b7, .int .i64 a8, .string a9] 0 wb _ BR.out HS2.out
          · exact setAll_R (by decide) [.slice B0 l0.length b0, .slice B1 l1.length b1, .slice B2 l2.length b2, .slice B3 l3.length b3, .int .u32 a4, .slice B5 l5.length b5, .int .i64 a6, .slice B7 l7.length b7, .int .i64 a8, .string a9] 0 wb _ BR.out HRA.out.2.2
          · exact setAll_R (by decide) [.slice B0 l0.length b0, .slice B1 l1.length b1, .slice B2 l2.length b2, .slice B3 l3.length b3, .int .u32 a4, .slice B5 l5.length b5, .int .i64 a6, .slice B7 l7.length b7, .int .i64 a8, .string a9] 0 wb _ BR.out HO5.out
          · exact setAll_S (by decide) [.slice B0 l0.length b0, .slice B1 l1.length b1, .slice B2 l2.length b2, .slice B3 l3.length b3, .int .u32 a4, .slice B5 l5.length b5, .int .i64 a6, .slice B7 l7.length b7, .int .i64 a8, .string a9] 0 wb _ BR.out HS7
          · exact setAll_below HGR.out [.slice B0 l0.length b0, .slice B1 l1.length b1, .slice B2 l2.length b2, .slice B3 l3.length b3, .int .u32 a4, .slice B5 l5.length b5, .int .i64 a6, .slice B7 l7.length b7, .int .i64 a8, .string a9] 0 wb HB.out
        | succ k1 =>
          have hi := HI.out
          have hlt : decide ((i : Int) < (l7.length : Int)) = true := decide_eq_true (by omega)
          have hltN : decide (i < l7.length) = true := decide_eq_true (by omega)
          have p1 : (0 ≤ (i : Int)) = True := eq_true (by omega)
          have p2 : ((i : Int) < (l7.length : Int)) = True := eq_true (by omega)
          have hwr : IntKind.i64.wrap ((i : Int) + 1) = ((i + 1 : Nat) : Int) := (i64_w _).trans (by unfold wrap64; have := HL7.out; omega)
          have hwr2 : wrap64 ((i : Int) + 1) = ((i + 1 : Nat) : Int) := by unfold wrap64; have := HL7.out; omega
          obtain ⟨g, cap, cur, hv2, hp⟩ := WP_open HP.out (by omega)
          obtain ⟨hqB, hqb⟩ : B7 = some ⟨g, 0, none⟩ ∧ b7 = cap := by injection hv2 with h1 _ h3; exact ⟨h1, h3⟩
          clear hv2
          subst hqB
          subst hqb
          obtain ⟨x, cs, hx, hseg, hK, hcell⟩ := PR_cell (PX_PR hp) (by omega)
          obtain ⟨A, cA, rfl, hlA, hgA⟩ := k82_open hK
          have hyA : wb.cell? ⟨g, i * 4 + 3, none⟩ = some (.slice A x.f3.length cA) := hcell 3 _ rfl
          have hy0 : wb.cell? ⟨gm, 7, none⟩ = some (.slice (some ⟨g, 0, none⟩) l7.length b7) := (blk_cell BM.out 7).trans rfl
          have HCO := Aside0.mk (fun (W : World) (hb : Below wb.heap.size wb W) => cloneU32_calls A cA x.f3 W (Kd.C_below (Kd.C_below hgA HB.out) hb) (HG7.out x (List.mem_of_getElem? hx)))
          have HX := Aside0.mk hx
          have HSG := Aside0.mk hseg
          have HPP := Aside0.mk hp
          have HPR := Aside0.mk (PX_PR hp)
          clear hx hseg hK hcell hp hlA hgA hi
          go_wp2
          refine start_ (n := 13) (S := fun w' => w'.cell? ⟨gm, 7, none⟩ = some (.slice (some ⟨g, 0, none⟩) l7.length b7) ∧ w'.cell? ⟨g, i * 4 + 3, none⟩ = some (.slice A x.f3.length cA) ∧ Below wb.heap.size wb w') (ds := [12]) #[false, false, false, false, false, false, false, false, false, false, false, false, false] (by kernel_rfl) rfl rfl ⟨hy0, hyA, below_drew1 (Below.refl wb.heap.size wb)⟩ (fun hHeld => ?_)
          refine pure_ (i := 0) (N := some 54) (v := ?_) (a' := ?_) #[true, false, false, false, false, false, false, false, false, false, false, false, false] rfl rfl (by kernel_rfl) (fun _ _ _ h => h) (Or.inl ⟨by rfl, ?_⟩) ?_ ?_
          rotate_left
          · intro w'
            go_simp
            with_reducible rfl
          rotate_left
          · simp only [Act.put, List.setIfInBounds_toArray, List.set_cons_zero, List.set_cons_succ]
            rfl
          refine pure_ (i := 2) (N := some 56) (v := ?_) (a' := ?_) #[true, false, true, false, false, false, false, false, false, false, false, false, false] rfl rfl (by kernel_rfl) (fun _ _ _ h => h) (Or.inl ⟨by rfl, ?_⟩) ?_ ?_
          rotate_left
          · intro w'
            go_simp
            with_reducible rfl
          rotate_left
          · simp only [Act.put, List.setIfInBounds_toArray, List.set_cons_zero, List.set_cons_succ]
            rfl
          refine pure_ (i := 3) (N := some 57) (v := ?_) (a' := ?_) #[true, false, true, true, false, false, false, false, false, false, false, false, false] rfl rfl (by kernel_rfl) (fun _ _ _ h => h) (Or.inl ⟨by rfl, ?_⟩) ?_ ?_
          rotate_left
          · intro w'
            go_simp
            with_reducible rfl
          rotate_left
          · simp only [Act.put, List.setIfInBounds_toArray, List.set_cons_zero, List.set_cons_succ]
            rfl
          refine pure_ (i := 5) (N := some 59) (v := ?_) (a' := ?_) #[true, false, true, true, false, true, false, false, false, false, false, false, false] rfl rfl (by kernel_rfl) (fun _ _ _ h => h) (Or.inl ⟨by rfl, ?_⟩) ?_ ?_
          rotate_left
          · intro w'
            go_simp
            with_reducible rfl
          rotate_left
          · simp only [Act.put, List.setIfInBounds_toArray, List.set_cons_zero, List.set_cons_succ]
            rfl
          refine take_ (i := 1) (N := some 55) (v := (.slice (some ⟨g, 0, none⟩) l7.length b7)) (a' := ?_) #[true, true, true, true, false, true, false, false, false, false, false, false, false] rfl rfl (by kernel_rfl) (fun _ _ _ h => h) (Or.inl ⟨by rfl, ?_⟩) hHeld ?_ ?_
          rotate_left
          rotate_left
          · simp only [Act.put, List.setIfInBounds_toArray, List.set_cons_zero, List.set_cons_succ]
            rfl
          rotate_left
          · rintro w' ⟨s0, s1, s2⟩
            go_simp
          refine take_ (i := 4) (N := some 58) (v := (.slice (some ⟨g, 0, none⟩) l7.length b7)) (a' := ?_) #[true, true, true, true, true, true, false, false, false, false, false, false, false] rfl rfl (by kernel_rfl) (fun _ _ _ h => h) (Or.inl ⟨by rfl, ?_⟩) hHeld ?_ ?_
          rotate_left
          rotate_left
          · simp only [Act.put, List.setIfInBounds_toArray, List.set_cons_zero, List.set_cons_succ]
            rfl
          rotate_left
          · rintro w' ⟨s0, s1, s2⟩
            go_simp
          refine pure_ (i := 6) (N := some 60) (v := ?_) (a' := ?_) #[true, true, true, true, true, true, true, false, false, false, false, false, false] rfl rfl (by kernel_rfl) (fun _ _ _ h => h) (Or.inl ⟨by rfl, ?_⟩) ?_ ?_
          rotate_left
          · intro w'
            go_simp
            with_reducible rfl
          rotate_left
          · simp only [Act.put, List.setIfInBounds_toArray, List.set_cons_zero, List.set_cons_succ]
            rfl
          refine pure_ (i := 7) (N := some 61) (v := ?_) (a' := ?_) #[true, true, true, true, true, true, true, true, false, false, false, false, false] rfl rfl (by kernel_rfl) (fun _ _ _ h => h) (Or.inl ⟨by rfl, ?_⟩) ?_ ?_
          rotate_left
          · intro w'
            go_simp
            with_reducible rfl
          rotate_left
          · simp only [Act.put, List.setIfInBounds_toArray, List.set_cons_zero, List.set_cons_succ]
            rfl
          refine take_ (i := 8) (N := some 62) (v := (.slice A x.f3.length cA)) (a' := ?_) #[true, true, true, true, true, true, true, true, true, false, false, false, false] rfl rfl (by kernel_rfl) (fun _ _ _ h => h) (Or.inl ⟨by rfl, ?_⟩) hHeld ?_ ?_
          rotate_left
          rotate_left
          · simp only [Act.put, List.setIfInBounds_toArray, List.set_cons_zero, List.set_cons_succ]
            rfl
          rotate_left
          · rintro w' ⟨s0, s1, s2⟩
            go_simp
          refine one_ (i := 9) (N := some 63) #[true, true, true, true, true, true, true, true, true, true, false, false, false] rfl rfl (by kernel_rfl) (by decide) (fun K hK => ?_)
          refine goes_ Try.func54 (by kernel_rfl) rfl #[.slice A x.f3.length cA] (by rfl) rfl rfl (by first | rfl | (simp only [List.map_toArray, List.map_cons, List.map_nil]; rfl)) ?_
          refine (HCO.out _ hHeld.2.2).mono ?_
          rintro e w2c ⟨v4, rfl, ho, hb⟩
          obtain ⟨B4, b4, rfl⟩ := Kd.R_slice ho
          have HO4 := Aside0.mk (Kd.R_lower ho hHeld.2.2.size)
          refine ⟨_, rfl, hK.out _ _ ⟨cell_step hHeld.1 hb, cell_step hHeld.2.1 hb, below_step hHeld.2.2 hb⟩ (fun hHeld => ?_)⟩
          clear ho hb
          clear hK K
          simp only [Act.put, List.setIfInBounds_toArray, List.set_cons_zero, List.set_cons_succ]
          refine pure_ (i := 10) (N := some 64) (v := ?_) (a' := ?_) #[true, true, true, true, true, true, true, true, true, true, true, false, false] rfl rfl (by kernel_rfl) (fun _ _ _ h => h) (Or.inl ⟨by rfl, ?_⟩) ?_ ?_
          rotate_left
          · intro w'
            go_simp
            with_reducible rfl
          rotate_left
          · simp only [Act.put, List.setIfInBounds_toArray, List.set_cons_zero, List.set_cons_succ]
            rfl
          refine pure_ (i := 11) (N := some 65) (v := ?_) (a' := ?_) #[true, true, true, true, true, true, true, true, true, true, true, true, false] rfl rfl (by kernel_rfl) (fun _ _ _ h => h) (Or.inl ⟨by rfl, ?_⟩) ?_ ?_
          rotate_left
          · intro w'
            go_simp
            with_reducible rfl
          rotate_left
          · simp only [Act.put, List.setIfInBounds_toArray, List.set_cons_zero, List.set_cons_succ]
            rfl
          refine last_ (i := 12) (N := none) #[true, true, true, true, true, true, true, true, true, true, true, true, true] rfl rfl (by kernel_rfl) (by decide) (fun K hK => ?_)
          have hh : w2c.heap[g]? = some (.cells cur 82 (0, 0)) := (hHeld.2.2.block g (blk_lt HPR.out.1)).trans HPR.out.1
          have hsz : i * 4 + 3 < cur.size := by have h1 := HPR.out.2.2.2.2.2.1; have h2 := HPR.out.2.2.2.1; have h3 := HI.out; have h4 : cur.size = b7 * 4 := h1; omega
          have hyo := hHeld.2.1
          have hfo := blk_frozen hh (i * 4 + 3)
          have hb12 := hHeld.2.2
          refine skip_ (w1 := ?_) (by rfl) rfl ?_ ?_
          rotate_left
          · go_simp
            rfl
          refine hK.out _ _ ?_
          obtain ⟨cur5, hh5, hs5, ht5, hg5⟩ := put_row hh (.slice B4 x.f3.length b4) hsz
          obtain ⟨w3c, hw3⟩ : ∃ X, X = w2c.setCell ⟨g, i * 4 + 3, none⟩ (.slice B4 x.f3.length b4) := ⟨_, rfl⟩
          rw [← hw3] at hh5
          rw [← hw3]
          have hbm := (hb12.block gm (blk_lt BM.out)).trans BM.out
          have hbr := (hb12.block gr (blk_lt BR.out)).trans BR.out
          have HRA3 := Aside0.mk (show RA w.heap.size (.slice B0 l0.length b0) (.slice B1 l1.length b1) (.slice B3 l3.length b3) l0 l1 l3 w3c by rw [hw3]; exact RA_set (RA_below HRA.out hb12) hh (by decide) _ _)
          have HO53 := Aside0.mk (show Kd.R k91 91 w3c w.heap.size (fun k_ => some k_ ≠ (Value.slice B0 l0.length b0).ownBlock ∧ some k_ ≠ (Value.slice B1 l1.length b1).ownBlock) (.slice B5 l5.length b5) l5 by rw [hw3]; exact Kd.R_set (Kd.R_below HO5.out hb12) hh (by decide) _ _)
          have HS23 := Aside0.mk (show Kd.S k51 51 w3c w.heap.size (fun _ => True) (.slice B2 l2.length b2) l2 by rw [hw3]; exact Kd.S_set (Kd.S_below HS2.out hb12) hh (by decide) _ _)
          have BM3 := Aside0.mk (show w3c.heap[gm]? = some (.cells #[.slice B0 l0.length b0, .slice B1 l1.length b1, .slice B2 l2.length b2, .slice B3 l3.length b3, .int .u32 a4, .slice B5 l5.length b5, .int .i64 a6, .slice (some ⟨g, 0, none⟩) l7.length b7, .int .i64 a8, .string a9] 32 (0, 0)) by rw [hw3]; exact (Below.heap_setCell _ _ _ gm (blk_ne hbm hh (by decide))).trans hbm)
          have BR3 := Aside0.mk (show w3c.heap[gr]? = some (.cells #[.slice none 0 0, .slice none 0 0, .slice none 0 0, .slice none 0 0, .int .u32 0, .slice none 0 0, .int .i64 0, .slice none 0 0, .int .i64 0, .string ⟨#[]⟩] 32 (0, 0)) by rw [hw3]; exact (Below.heap_setCell _ _ _ gr (blk_ne hbr hh (by decide))).trans hbr)
          have HB3 := Aside0.mk (show Below w.heap.size w w3c by rw [hw3]; exact below_set (below_step HB.out hb12) (Nat.le_trans HbI.out HPR.out.2.1))
          have hgl : g < wb.heap.size := blk_lt HPR.out.1
          have hr4 : Kd.R (Kd.int .u32) 28 w3c wb.heap.size (fun k => k ≠ g) (.slice B4 x.f3.length b4) x.f3 := by rw [hw3]; exact Kd.R_set (R_ge HO4.out hgl) hh (by decide) _ _
          have HWP3 := Aside0.mk (show WP k82 82 w w3c bI (.slice (some ⟨g, 0, none⟩) l7.length b7) (i + 1) l7 from .inr ⟨g, b7, cur5, rfl, PX_put HPP.out HX.out hh5 hs5 (fun j hj => by rw [ht5]; exact seg82_ne _ _ _ _ hj) (by rw [ht5, show seg (cur.toList.set (i * 4 + 3) (.slice B4 x.f3.length b4)) k82.sz i = _ from seg82 _ _ _ _ _ _ _ HSG.out.symm]; exact k82_mkM _ _ _ _ (Kd.R_lower (Kd.R_mono (Kd.R_bound hr4) (fun k hk => ⟨hk.1, hk.2.1⟩)) (Nat.le_of_lt (Nat.lt_of_le_of_lt HPR.out.2.1 hgl)))) (fun k h5 h6 => by rw [hw3]; exact (Below.heap_setCell _ _ _ k h5).trans (hb12.block k h6))⟩)
          clear hK K hh hsz hyo hfo hb12 hh5 hs5 ht5 hg5 hw3 hbm hbr hgl hr4 hHeld hyA hy0
          refine done_ (n := 0) (by kernel_rfl) ?_
          go_wp2
          go_roundg k1
          case measure => omega
          case rel => exact ⟨i + 1, rfl, ⟨by have := HI.out; omega⟩, HWP3, HRA3, HO53, HS23, BM3, BR3, HB3⟩
    | succ k1 =>
      have hi := HI.out
      have hlt : decide ((i : Int) < (l2.length : Int)) = true := decide_eq_true (by omega)
      have hltN : decide (i < l2.length) = true := decide_eq_true (by omega)
      have p1 : (0 ≤ (i : Int)) = True := eq_true (by omega)
      have p2 : ((i : Int) < (l2.length : Int)) = True := eq_true (by omega)
      have hwr : IntKind.i64.wrap ((i : Int) + 1) = ((i + 1 : Nat) : Int) := (i64_w _).trans (by unfold wrap64; have := HL2.out; omega)
      have hwr2 : wrap64 ((i : Int) + 1) = ((i + 1 : Nat) : Int) := by unfold wrap64; have := HL2.out; omega
      obtain ⟨g, cap, cur, hv2, hp⟩ := WP_open HP.out (by omega)
      obtain ⟨hqB, hqb⟩ : B2 = some ⟨g, 0, none⟩ ∧ b2 = cap := by injection hv2 with h1 _ h3; exact ⟨h1, h3⟩
      clear hv2
      subst hqB
      subst hqb
      obtain ⟨x, cs, hx, hseg, hK, hcell⟩ := PR_cell (PX_PR hp) (by omega)
      obtain ⟨A, cA, rfl, hlA, hgA⟩ := k51_open hK
      have hyA : wa.cell? ⟨g, i * 5 + 4, none⟩ = some (.slice A x.f4.length cA) := hcell 4 _ rfl
      have hy0 : wa.cell? ⟨gm, 2, none⟩ = some (.slice (some ⟨g, 0, none⟩) l2.length b2) := (blk_cell BM.out 2).trans rfl
      have HCO := Aside0.mk (fun (W : World) (hb : Below wa.heap.size wa W) => cloneOp_calls A cA x.f4 W (Kd.C_below (Kd.C_below hgA HB.out) hb) (HG2.out x (List.mem_of_getElem? hx)))
      have HX := Aside0.mk hx
      have HSG := Aside0.mk hseg
      have HPP := Aside0.mk hp
      have HPR := Aside0.mk (PX_PR hp)
      clear hx hseg hK hcell hp hlA hgA hi
      go_wp2
      refine start_ (n := 13) (S := fun w' => w'.cell? ⟨gm, 2, none⟩ = some (.slice (some ⟨g, 0, none⟩) l2.length b2) ∧ w'.cell? ⟨g, i * 5 + 4, none⟩ = some (.slice A x.f4.length cA) ∧ Below wa.heap.size wa w') (ds := [12]) #[false, false, false, false, false, false, false, false, false, false, false, false, false] (by kernel_rfl) rfl rfl ⟨hy0, hyA, below_drew1 (Below.refl wa.heap.size wa)⟩ (fun hHeld => ?_)
      refine pure_ (i := 0) (N := some 35) (v := ?_) (a' := ?_) #[true, false, false, false, false, false, false, false, false, false, false, false, false] rfl rfl (by kernel_rfl) (fun _ _ _ h => h) (Or.inl ⟨by rfl, ?_⟩) ?_ ?_
      rotate_left
      · intro w'
        go_simp
        with_reducible rfl
      rotate_left
      · simp only [Act.put, List.setIfInBounds_toArray, List.set_cons_zero, List.set_cons_succ]
        rfl
      refine pure_ (i := 2) (N := some 37) (v := ?_) (a' := ?_) #[true, false, true, false, false, false, false, false, false, false, false, false, false] rfl rfl (by kernel_rfl) (fun _ _ _ h => h) (Or.inl ⟨by rfl, ?_⟩) ?_ ?_
      rotate_left
      · intro w'
        go_simp
        with_reducible rfl
      rotate_left
      · simp only [Act.put, List.setIfInBounds_toArray, List.set_cons_zero, List.set_cons_succ]
        rfl
      refine pure_ (i := 3) (N := some 38) (v := ?_) (a' := ?_) #[true, false, true, true, false, false, false, false, false, false, false, false, false] rfl rfl (by kernel_rfl) (fun _ _ _ h => h) (Or.inl ⟨by rfl, ?_⟩) ?_ ?_
      rotate_left
      · intro w'
        go_simp
        with_reducible rfl
      rotate_left
      · simp only [Act.put, List.setIfInBounds_toArray, List.set_cons_zero, List.set_cons_succ]
        rfl
      refine pure_ (i := 5) (N := some 40) (v := ?_) (a' := ?_) #[true, false, true, true, false, true, false, false, false, false, false, false, false] rfl rfl (by kernel_rfl) (fun _ _ _ h => h) (Or.inl ⟨by rfl, ?_⟩) ?_ ?_
      rotate_left
      · intro w'
        go_simp
        with_reducible rfl
      rotate_left
      · simp only [Act.put, List.setIfInBounds_toArray, List.set_cons_zero, List.set_cons_succ]
        rfl
      refine take_ (i := 1) (N := some 36) (v := (.slice (some ⟨g, 0, none⟩) l2.length b2)) (a' := ?_) #[true, true, true, true, false, true, false, false, false, false, false, false, false] rfl rfl (by kernel_rfl) (fun _ _ _ h => h) (Or.inl ⟨by rfl, ?_⟩) hHeld ?_ ?_
      rotate_left
      rotate_left
      · simp only [Act.put, List.setIfInBounds_toArray, List.set_cons_zero, List.set_cons_succ]
        rfl
      rotate_left
      · rintro w' ⟨s0, s1, s2⟩
        go_simp
      refine take_ (i := 4) (N := some 39) (v := (.slice (some ⟨g, 0, none⟩) l2.length b2)) (a' := ?_) #[true, true, true, true, true, true, false, false, false, false, false, false, false] rfl rfl (by kernel_rfl) (fun _ _ _ h => h) (Or.inl ⟨by rfl, ?_⟩) hHeld ?_ ?_
      rotate_left
      rotate_left
      · simp only [Act.put, List.setIfInBounds_toArray, List.set_cons_zero, List.set_cons_succ]
        rfl
      rotate_left
      · rintro w' ⟨s0, s1, s2⟩
        go_simp
      refine pure_ (i := 6) (N := some 41) (v := ?_) (a' := ?_) #[true, true, true, true, true, true, true, false, false, false, false, false, false] rfl rfl (by kernel_rfl) (fun _ _ _ h => h) (Or.inl ⟨by rfl, ?_⟩) ?_ ?_
      rotate_left
      · intro w'
        go_simp
        with_reducible rfl
      rotate_left
      · simp only [Act.put, List.setIfInBounds_toArray, List.set_cons_zero, List.set_cons_succ]
        rfl
      refine pure_ (i := 7) (N := some 42) (v := ?_) (a' := ?_) #[true, true, true, true, true, true, true, true, false, false, false, false, false] rfl rfl (by kernel_rfl) (fun _ _ _ h => h) (Or.inl ⟨by rfl, ?_⟩) ?_ ?_
      rotate_left
      · intro w'
        go_simp
        with_reducible rfl
      rotate_left
      · simp only [Act.put, List.setIfInBounds_toArray, List.set_cons_zero, List.set_cons_succ]
        rfl
      refine take_ (i := 8) (N := some 43) (v := (.slice A x.f4.length cA)) (a' := ?_) #[true, true, true, true, true, true, true, true, true, false, false, false, false] rfl rfl (by kernel_rfl) (fun _ _ _ h => h) (Or.inl ⟨by rfl, ?_⟩) hHeld ?_ ?_
      rotate_left
      rotate_left
      · simp only [Act.put, List.setIfInBounds_toArray, List.set_cons_zero, List.set_cons_succ]
        rfl
      rotate_left
      · rintro w' ⟨s0, s1, s2⟩
        go_simp
      refine one_ (i := 9) (N := some 44) #[true, true, true, true, true, true, true, true, true, true, false, false, false] rfl rfl (by kernel_rfl) (by decide) (fun K hK => ?_)
      refine goes_ Try.func60 (by kernel_rfl) rfl #[.slice A x.f4.length cA] (by rfl) rfl rfl (by first | rfl | (simp only [List.map_toArray, List.map_cons, List.map_nil]; rfl)) ?_
      refine (HCO.out _ hHeld.2.2).mono ?_
      rintro e w2c ⟨v4, rfl, ho, hb⟩
      obtain ⟨B4, b4, rfl⟩ := Kd.R_slice ho
      have HO4 := Aside0.mk (Kd.R_lower ho hHeld.2.2.size)
      refine ⟨_, rfl, hK.out _ _ ⟨cell_step hHeld.1 hb, cell_step hHeld.2.1 hb, below_step hHeld.2.2 hb⟩ (fun hHeld => ?_)⟩
      clear ho hb
      clear hK K
      simp only [Act.put, List.setIfInBounds_toArray, List.set_cons_zero, List.set_cons_succ]
      refine pure_ (i := 10) (N := some 45) (v := ?_) (a' := ?_) #[true, true, true, true, true, true, true, true, true, true, true, false, false] rfl rfl (by kernel_rfl) (fun _ _ _ h => h) (Or.inl ⟨by rfl, ?_⟩) ?_ ?_
      rotate_left
      · intro w'
        go_simp
        with_reducible rfl
      rotate_left
      · simp only [Act.put, List.setIfInBounds_toArray, List.set_cons_zero, List.set_cons_succ]
        rfl
      refine pure_ (i := 11) (N := some 46) (v := ?_) (a' := ?_) #[true, true, true, true, true, true, true, true, true, true, true, true, false] rfl rfl (by kernel_rfl) (fun _ _ _ h => h) (Or.inl ⟨by rfl, ?_⟩) ?_ ?_
      rotate_left
      · intro w'
        go_simp
        with_reducible rfl
      rotate_left
      · simp only [Act.put, List.setIfInBounds_toArray, List.set_cons_zero, List.set_cons_succ]
        rfl
      refine last_ (i := 12) (N := none) #[true, true, true, true, true, true, true, true, true, true, true, true, true] rfl rfl (by kernel_rfl) (by decide) (fun K hK => ?_)
      have hh : w2c.heap[g]? = some (.cells cur 51 (0, 0)) := (hHeld.2.2.block g (blk_lt HPR.out.1)).trans HPR.out.1
      have hsz : i * 5 + 4 < cur.size := by have h1 := HPR.out.2.2.2.2.2.1; have h2 := HPR.out.2.2.2.1; have h3 := HI.out; have h4 : cur.size = b2 * 5 := h1; omega
      have hyo := hHeld.2.1
      have hfo := blk_frozen hh (i * 5 + 4)
      have hb12 := hHeld.2.2
      refine skip_ (w1 := ?_) (by rfl) rfl ?_ ?_
      rotate_left
      · go_simp
        rfl
      refine hK.out _ _ ?_
      obtain ⟨cur5, hh5, hs5, ht5, hg5⟩ := put_row hh (.slice B4 x.f4.length b4) hsz
      obtain ⟨w3c, hw3⟩ : ∃ X, X = w2c.setCell ⟨g, i * 5 + 4, none⟩ (.slice B4 x.f4.length b4) := ⟨_, rfl⟩
      rw [← hw3] at hh5
      rw [← hw3]
      have hbm := (hb12.block gm (blk_lt BM.out)).trans BM.out
      have hbr := (hb12.block gr (blk_lt BR.out)).trans BR.out
      have HRA3 := Aside0.mk (show RA w.heap.size (.slice B0 l0.length b0) (.slice B1 l1.length b1) (.slice B3 l3.length b3) l0 l1 l3 w3c by rw [hw3]; exact RA_set (RA_below HRA.out hb12) hh (by decide) _ _)
      have HO53 := Aside0.mk (show Kd.R k91 91 w3c w.heap.size (fun k_ => some k_ ≠ (Value.slice B0 l0.length b0).ownBlock ∧ some k_ ≠ (Value.slice B1 l1.length b1).ownBlock) (.slice B5 l5.length b5) l5 by rw [hw3]; exact Kd.R_set (Kd.R_below HO5.out hb12) hh (by decide) _ _)
      have HO73 := Aside0.mk (show ∃ bI, (∀ k, (Value.slice B0 l0.length b0).ownBlock = some k → k < bI) ∧ w.heap.size ≤ bI ∧ Kd.R (Kd.raw 4) 82 w3c bI (fun _ => True) (.slice B7 l7.length b7) css7 by rw [hw3]; obtain ⟨bI, q1, q2, q3⟩ := HO7.out; exact ⟨bI, q1, q2, Kd.R_set (Kd.R_below q3 hb12) hh (by decide) _ _⟩)
      have BM3 := Aside0.mk (show w3c.heap[gm]? = some (.cells #[.slice B0 l0.length b0, .slice B1 l1.length b1, .slice (some ⟨g, 0, none⟩) l2.length b2, .slice B3 l3.length b3, .int .u32 a4, .slice B5 l5.length b5, .int .i64 a6, .slice B7 l7.length b7, .int .i64 a8, .string a9] 32 (0, 0)) by rw [hw3]; exact (Below.heap_setCell _ _ _ gm (blk_ne hbm hh (by decide))).trans hbm)
      have BR3 := Aside0.mk (show w3c.heap[gr]? = some (.cells #[.slice none 0 0, .slice none 0 0, .slice none 0 0, .slice none 0 0, .int .u32 0, .slice none 0 0, .int .i64 0, .slice none 0 0, .int .i64 0, .string ⟨#[]⟩] 32 (0, 0)) by rw [hw3]; exact (Below.heap_setCell _ _ _ gr (blk_ne hbr hh (by decide))).trans hbr)
      have HB3 := Aside0.mk (show Below w.heap.size w w3c by rw [hw3]; exact below_set (below_step HB.out hb12) (Nat.le_trans (Nat.le_refl _) HPR.out.2.1))
      have hgl : g < wa.heap.size := blk_lt HPR.out.1
      have hr4 : Kd.R k69 69 w3c wa.heap.size (fun k => k ≠ g) (.slice B4 x.f4.length b4) x.f4 := by rw [hw3]; exact Kd.R_set (R_ge HO4.out hgl) hh (by decide) _ _
      have HWP3 := Aside0.mk (show WP k51 51 w w3c w.heap.size (.slice (some ⟨g, 0, none⟩) l2.length b2) (i + 1) l2 from .inr ⟨g, b2, cur5, rfl, PX_put HPP.out HX.out hh5 hs5 (fun j hj => by rw [ht5]; exact seg51_ne _ _ _ _ hj) (by rw [ht5, show seg (cur.toList.set (i * 5 + 4) (.slice B4 x.f4.length b4)) k51.sz i = _ from seg51 _ _ _ _ _ _ _ _ HSG.out.symm]; exact k51_mkM _ _ _ _ (Kd.R_lower (Kd.R_mono (Kd.R_bound hr4) (fun k hk => ⟨hk.1, hk.2.1⟩)) HB.out.size)) (fun k h5 h6 => by rw [hw3]; exact (Below.heap_setCell _ _ _ k h5).trans (hb12.block k h6))⟩)
      clear hK K hh hsz hyo hfo hb12 hh5 hs5 ht5 hg5 hw3 hbm hbr hgl hr4 hHeld hyA hy0
      refine done_ (n := 0) (by kernel_rfl) ?_
      go_wp2
      go_roundg k1
      case measure => omega
      case rel => exact ⟨i + 1, rfl, ⟨by have := HI.out; omega⟩, HWP3, HRA3, HO53, HO73, BM3, BR3, HB3⟩
end Go.Proofs.Ytfpkakedlapmkaa.Q
end
section
set_option linter.unusedVariables false
namespace Go.Proofs.Ytfpkakedlapmkaa.Q
open Go.RowKit Go.Proofs.YtfpkakedlapmkaaW.PrintWords Go.Proofs.YtfpkakedlapmkaaW.PrintLast
/-- Lists short enough for a copy to be made. -/
def shortW (x : S51) : Bool := decide (x.f4.length * 16 < 140737488355328)
def shortI (x : S82) : Bool := decide (x.f3.length * 4 < 140737488355328)
def shortM (l0 l1 : List Int) (l2 : List S51) (l3 : List Int) (l5 : List S91) (l7 : List S82) : Bool :=
  decide (l0.length * 4 < 140737488355328) && (decide (l1.length * 1 < 140737488355328) && (decide (l2.length * 64 < 140737488355328) && (decide (l3.length * 8 < 140737488355328) && (shortT l5 && (decide (l7.length * 56 < 140737488355328) && (l2.all shortW && l7.all shortI))))))
def dict_Copy.f (l0_0 : List Int) (l0_1 : List Int) (l0_2 : List (S51)) (l0_3 : List Int) (a0_4 : Int) (l0_5 : List (S91)) (a0_6 : Int) (l0_7 : List (S82)) (a0_8 : Int) (a0_9 : ByteArray) : Option (List Int × List Int × List (S51) × List Int × Int × List (S91) × Int × List (S82) × Int × ByteArray) :=
  if shortM l0_0 l0_1 l0_2 l0_3 l0_5 l0_7 = true then some (l0_0, l0_1, l0_2, l0_3, a0_4, l0_5, a0_6, l0_7, a0_8, a0_9) else none
theorem dict_Copy.calls (A0_0 : Option Addr) (c0_0 : Nat) (l0_0 : List Int) (A0_1 : Option Addr) (c0_1 : Nat) (l0_1 : List Int) (A0_2 : Option Addr) (c0_2 : Nat) (l0_2 : List (S51)) (A0_3 : Option Addr) (c0_3 : Nat) (l0_3 : List Int) (a0_4 : Int) (A0_5 : Option Addr) (c0_5 : Nat) (l0_5 : List (S91)) (a0_6 : Int) (A0_7 : Option Addr) (c0_7 : Nat) (l0_7 : List (S82)) (a0_8 : Int) (a0_9 : ByteArray) (r1 : List Int) (r2 : List Int) (r3 : List (S51)) (r4 : List Int) (r5 : Int) (r6 : List (S91)) (r7 : Int) (r8 : List (S82)) (r9 : Int) (r10 : ByteArray) (w : World) (hr0_0 : Kd.C (Kd.int .u32) w A0_0 l0_0.length l0_0) (hc0_0 : l0_0.length ≤ c0_0) (hr0_1 : Kd.C (Kd.int .u8) w A0_1 l0_1.length l0_1) (hc0_1 : l0_1.length ≤ c0_1) (hr0_2 : Kd.C k51 w A0_2 l0_2.length l0_2) (hc0_2 : l0_2.length ≤ c0_2) (hr0_3 : Kd.C (Kd.int .i64) w A0_3 l0_3.length l0_3) (hc0_3 : l0_3.length ≤ c0_3) (hr0_5 : Kd.C k91 w A0_5 l0_5.length l0_5) (hc0_5 : l0_5.length ≤ c0_5) (hr0_7 : Kd.C k82 w A0_7 l0_7.length l0_7) (hc0_7 : l0_7.length ≤ c0_7) (h : dict_Copy.f l0_0 l0_1 l0_2 l0_3 a0_4 l0_5 a0_6 l0_7 a0_8 a0_9 = some (r1, r2, r3, r4, r5, r6, r7, r8, r9, r10)) :
    Calls Try.prog 28 #[.agg #[.slice A0_0 l0_0.length c0_0, .slice A0_1 l0_1.length c0_1, .slice A0_2 l0_2.length c0_2, .slice A0_3 l0_3.length c0_3, .int .u32 a0_4, .slice A0_5 l0_5.length c0_5, .int .i64 a0_6, .slice A0_7 l0_7.length c0_7, .int .i64 a0_8, .string a0_9]] w fun e w' => ∃ v0_ v1_ v2_ v3_ v5_ v7_ : Value, e = .returned (.agg #[v0_, v1_, v2_, v3_, .int .u32 r5, v5_, .int .i64 r7, v7_, .int .i64 r9, .string r10]) ∧ Kd.R (Kd.int .u32) 28 w' w.heap.size (fun _ => True) v0_ r1 ∧ Kd.R (Kd.int .u8) 5 w' w.heap.size (fun _ => True) v1_ r2 ∧ Kd.S k51 51 w' w.heap.size (fun _ => True) v2_ r3 ∧ Kd.R (Kd.int .i64) 3 w' w.heap.size (fun _ => True) v3_ r4 ∧ Kd.R k91 91 w' w.heap.size (fun k_ => some k_ ≠ (v0_ : Value).ownBlock ∧ some k_ ≠ (v1_ : Value).ownBlock) v5_ r6 ∧ Kd.S k82 82 w' w.heap.size (fun k_ => some k_ ≠ (v0_ : Value).ownBlock) v7_ r8 ∧ Below w.heap.size w w' := by
  unfold dict_Copy.f at h
  by_cases hs : shortM l0_0 l0_1 l0_2 l0_3 l0_5 l0_7 = true
  · rw [if_pos hs] at h
    have e := Option.some.inj h
    simp only [Prod.mk.injEq] at e
    obtain ⟨rfl, rfl, rfl, rfl, rfl, rfl, rfl, rfl, rfl, rfl⟩ := e
    simp only [shortM, shortT, Bool.and_eq_true, decide_eq_true_eq, List.all_eq_true] at hs
    obtain ⟨h0, h1, h2, h3, ⟨h5, h5b⟩, h7, hw, hi⟩ := hs
    exact dcopy_calls A0_0 c0_0 l0_0 A0_1 c0_1 l0_1 A0_2 c0_2 l0_2 A0_3 c0_3 l0_3 a0_4 A0_5 c0_5 l0_5 a0_6 A0_7 c0_7 l0_7 a0_8 a0_9 w hr0_0 hr0_1 hr0_2 hr0_3 hr0_5 hc0_5 hr0_7 h0 h1 h2 h3 h5 (fun x hx => shortN_G (h5b x hx)) h7 (fun x hx => by have := hw x hx; simpa [shortW] using this) (fun x hx => by have := hi x hx; simpa [shortI] using this)
  · rw [if_neg hs] at h
    cases h
def api_Op.f (l0 : List (S69)) : Option (List (S69)) := if l0.length * 16 < 140737488355328 then some l0 else none
theorem api_Op.calls (A0 : Option Addr) (c0 : Nat) (l0 : List (S69)) (r : List (S69)) (w : World) (hr0 : Kd.C k69 w A0 l0.length l0) (hc0 : l0.length ≤ c0) (h : api_Op.f l0 = some r) :
    Calls Try.prog 60 #[.slice A0 l0.length c0] w fun e w' => ∃ v0_ : Value, e = .returned (v0_) ∧ Kd.R k69 69 w' w.heap.size (fun _ => True) v0_ r ∧ Below w.heap.size w w' := by
  unfold api_Op.f at h
  by_cases hs : l0.length * 16 < 140737488355328
  · rw [if_pos hs] at h
    obtain rfl := Option.some.inj h
    exact cloneOp_calls A0 c0 l0 w hr0 hs
  · rw [if_neg hs] at h
    cases h
end Go.Proofs.Ytfpkakedlapmkaa.Q
end
section
namespace Go.Proofs.Ytfpkakedlapmkaa.Q
open Go.RowKit Go.Proofs.YtfpkakedlapmkaaW.PrintWords Go.Proofs.YtfpkakedlapmkaaW.PrintLast Go.Proofs.YtfpkakedlapmkaaW.PrintMore
set_option linter.unusedVariables false
set_option linter.unusedSimpArgs false

attribute [local go_sem] max2_int min2_int max_two min_two max_three min_three max_four min_four
/-! ### dict_Define: function 30 -/
def dict_Define.j0 : Nat → Int → Bool → List Int → List Int → List (S51) → List Int → Int → List (S91) → Int → List (S82) → Int → ByteArray → ByteArray → Int → Int → Int → List (S69) → Option (List Int × List Int × (List (S51)) × List Int × Int × (List (S91)) × Int × (List (S82)) × Int × ByteArray × Int × Int)
  | 0, _, _, _, _, _, _, _, _, _, _, _, _, _, _, _, _, _ => none
  | k + 1, x7, x11, x31002000, x31002001, x31002002, x31002003, x31002004, x31002005, x31002006, x31002007, x31002008, x31002009, x31003000, x31003001, x31003002, x31003003, x31003004 => if x11 = true then (some (([] : List Int), ([] : List Int), ([] : List (S51)), ([] : List Int), 0, ([] : List (S91)), 0, ([] : List (S82)), 0, (⟨#[]⟩ : ByteArray), 0, 1)) else (if x7 = 640 then (some (([] : List Int), ([] : List Int), ([] : List (S51)), ([] : List Int), 0, ([] : List (S91)), 0, ([] : List (S82)), 0, (⟨#[]⟩ : ByteArray), 0, 22)) else ((dict_Copy.f x31002000 x31002001 x31002002 x31002003 x31002004 x31002005 x31002006 x31002007 x31002008 x31002009).bind fun bt31006 => ((api_Op.f x31003004).bind fun t31028 => (if bt31006.2.2.1.length < 2199023255552 then (some (bt31006.1, bt31006.2.1, (bt31006.2.2.1 ++ [(⟨x31003000, x31003001, x31003002, x31003003, t31028⟩ : S51)]), bt31006.2.2.2.1, bt31006.2.2.2.2.1, bt31006.2.2.2.2.2.1, bt31006.2.2.2.2.2.2.1, bt31006.2.2.2.2.2.2.2.1, bt31006.2.2.2.2.2.2.2.2.1, bt31006.2.2.2.2.2.2.2.2.2, x7, 0)) else (none)))))
def dict_Define.f (k : Nat) (l0_0 : List Int) (l0_1 : List Int) (l0_2 : List (S51)) (l0_3 : List Int) (a0_4 : Int) (l0_5 : List (S91)) (a0_6 : Int) (l0_7 : List (S82)) (a0_8 : Int) (a0_9 : ByteArray) (a1_0 : ByteArray) (a1_1 : Int) (a1_2 : Int) (a1_3 : Int) (l1_4 : List (S69)) : Option (List Int × List Int × (List (S51)) × List Int × Int × (List (S91)) × Int × (List (S82)) × Int × ByteArray × Int × Int) := (dict_Formed.f l0_0 l0_1 l0_2 l0_3 a0_4 l0_5 a0_6 l0_7 a0_8 a0_9).bind fun t31004 => (if t31004 = true then ((dict_right.f k a1_0 a1_1 a1_2 a1_3 l1_4 (wrap64 ((l0_2.length : Int) + 1)) l0_5).bind fun t31005 => (dict_Define.j0 k (l0_2.length : Int) (!t31005) l0_0 l0_1 l0_2 l0_3 a0_4 l0_5 a0_6 l0_7 a0_8 a0_9 a1_0 a1_1 a1_2 a1_3 l1_4)) else (dict_Define.j0 k (l0_2.length : Int) true l0_0 l0_1 l0_2 l0_3 a0_4 l0_5 a0_6 l0_7 a0_8 a0_9 a1_0 a1_1 a1_2 a1_3 l1_4))
set_option maxHeartbeats 8000000 in
set_option maxRecDepth 100000 in
theorem dict_Define.calls (k : Nat) (A0_0 : Option Addr) (c0_0 : Nat) (l0_0 : List Int) (A0_1 : Option Addr) (c0_1 : Nat) (l0_1 : List Int) (A0_2 : Option Addr) (c0_2 : Nat) (l0_2 : List (S51)) (A0_3 : Option Addr) (c0_3 : Nat) (l0_3 : List Int) (a0_4 : Int) (A0_5 : Option Addr) (c0_5 : Nat) (l0_5 : List (S91)) (a0_6 : Int) (A0_7 : Option Addr) (c0_7 : Nat) (l0_7 : List (S82)) (a0_8 : Int) (a0_9 : ByteArray) (a1_0 : ByteArray) (a1_1 : Int) (a1_2 : Int) (a1_3 : Int) (A1_4 : Option Addr) (c1_4 : Nat) (l1_4 : List (S69)) (r1 : List Int) (r2 : List Int) (r3 : List (S51)) (r4 : List Int) (r5 : Int) (r6 : List (S91)) (r7 : Int) (r8 : List (S82)) (r9 : Int) (r10 : ByteArray) (r11 : Int) (r12 : Int) (w : World) (hr0_0 : Kd.C (Kd.int .u32) w A0_0 l0_0.length l0_0) (hc0_0 : l0_0.length ≤ c0_0) (hr0_1 : Kd.C (Kd.int .u8) w A0_1 l0_1.length l0_1) (hc0_1 : l0_1.length ≤ c0_1) (hr0_2 : Kd.C k51 w A0_2 l0_2.length l0_2) (hc0_2 : l0_2.length ≤ c0_2) (hr0_3 : Kd.C (Kd.int .i64) w A0_3 l0_3.length l0_3) (hc0_3 : l0_3.length ≤ c0_3) (hr0_5 : Kd.C k91 w A0_5 l0_5.length l0_5) (hc0_5 : l0_5.length ≤ c0_5) (hr0_7 : Kd.C k82 w A0_7 l0_7.length l0_7) (hc0_7 : l0_7.length ≤ c0_7) (hr1_4 : Kd.C k69 w A1_4 l1_4.length l1_4) (hc1_4 : l1_4.length ≤ c1_4) (h : dict_Define.f k l0_0 l0_1 l0_2 l0_3 a0_4 l0_5 a0_6 l0_7 a0_8 a0_9 a1_0 a1_1 a1_2 a1_3 l1_4 = some (r1, r2, r3, r4, r5, r6, r7, r8, r9, r10, r11, r12)) :
    Calls Try.prog 30 #[.agg #[.slice A0_0 l0_0.length c0_0, .slice A0_1 l0_1.length c0_1, .slice A0_2 l0_2.length c0_2, .slice A0_3 l0_3.length c0_3, .int .u32 a0_4, .slice A0_5 l0_5.length c0_5, .int .i64 a0_6, .slice A0_7 l0_7.length c0_7, .int .i64 a0_8, .string a0_9], .agg #[.string a1_0, .int .i64 a1_1, .int .i64 a1_2, .int .u32 a1_3, .slice A1_4 l1_4.length c1_4]] w fun e w' => ∃ v0_ v1_ v2_ v3_ v5_ v7_ : Value, e = .returned (.tuple #[.agg #[v0_, v1_, v2_, v3_, .int .u32 r5, v5_, .int .i64 r7, v7_, .int .i64 r9, .string r10], .int .i64 r11, .int .i64 r12]) ∧ Kd.R (Kd.int .u32) 28 w' w.heap.size (fun _ => True) v0_ r1 ∧ Kd.R (Kd.int .u8) 5 w' w.heap.size (fun _ => True) v1_ r2 ∧ Kd.S k51 51 w' w.heap.size (fun _ => True) v2_ r3 ∧ Kd.R (Kd.int .i64) 3 w' w.heap.size (fun _ => True) v3_ r4 ∧ Kd.R k91 91 w' w.heap.size (fun k_ => some k_ ≠ (v0_ : Value).ownBlock ∧ some k_ ≠ (v1_ : Value).ownBlock) v5_ r6 ∧ Kd.S k82 82 w' w.heap.size (fun k_ => some k_ ≠ (v0_ : Value).ownBlock) v7_ r8 ∧ Below w.heap.size w w' := by
  have hu32 := Try.underlying32
  have hu51 := Try.underlying51
  have HR0_0 := Aside0.mk hr0_0
  have HC0_0 := Aside0.mk hc0_0
  clear hr0_0 hc0_0
  have HR0_1 := Aside0.mk hr0_1
  have HC0_1 := Aside0.mk hc0_1
  clear hr0_1 hc0_1
  have HR0_2 := Aside0.mk hr0_2
  have HC0_2 := Aside0.mk hc0_2
  clear hr0_2 hc0_2
  have HR0_3 := Aside0.mk hr0_3
  have HC0_3 := Aside0.mk hc0_3
  clear hr0_3 hc0_3
  have HR0_5 := Aside0.mk hr0_5
  have HC0_5 := Aside0.mk hc0_5
  clear hr0_5 hc0_5
  have HR0_7 := Aside0.mk hr0_7
  have HC0_7 := Aside0.mk hc0_7
  clear hr0_7 hc0_7
  have HR1_4 := Aside0.mk hr1_4
  have HC1_4 := Aside0.mk hc1_4
  clear hr1_4 hc1_4
  have HB := Aside0.mk (Below.refl w.heap.size w)
  have H : ((dict_Formed.f l0_0 l0_1 l0_2 l0_3 a0_4 l0_5 a0_6 l0_7 a0_8 a0_9).bind fun t31004 => (if t31004 = true then ((dict_right.f k a1_0 a1_1 a1_2 a1_3 l1_4 (wrap64 ((l0_2.length : Int) + 1)) l0_5).bind fun t31005 => (dict_Define.j0 k (l0_2.length : Int) (!t31005) l0_0 l0_1 l0_2 l0_3 a0_4 l0_5 a0_6 l0_7 a0_8 a0_9 a1_0 a1_1 a1_2 a1_3 l1_4)) else (dict_Define.j0 k (l0_2.length : Int) true l0_0 l0_1 l0_2 l0_3 a0_4 l0_5 a0_6 l0_7 a0_8 a0_9 a1_0 a1_1 a1_2 a1_3 l1_4))) = some (r1, r2, r3, r4, r5, r6, r7, r8, r9, r10, r11, r12) := h
  clear h
  have HC3 := Aside0.mk H
  clear H
  go_enter Try.func30, Try.ntmps30
  go_upto_region 2 with (first | ((with_reducible refine gate_dst (N := 2) rfl ?_); refine box_event ?hg (N := 2) ?hd (cs := #[.slice A0_0 l0_0.length c0_0, .slice A0_1 l0_1.length c0_1, .slice A0_2 l0_2.length c0_2, .slice A0_3 l0_3.length c0_3, .int .u32 a0_4, .slice A0_5 l0_5.length c0_5, .int .i64 a0_6, .slice A0_7 l0_7.length c0_7, .int .i64 a0_8, .string a0_9]) (t := 32) ?hr ?_; (case hd => rfl); (case hg => rfl); (case hr => first | (go_simp; done) | (go_simp; rfl)); intro gb31001 hg w4 hbox hb; have n0_ := Aside0.mk (below_step (by repeat (first | (with_reducible first | exact HB.out | apply below_alloc | apply pw_below_drewN | apply below_drew1) | exact HB.out)) hb); have n1_ := Aside0.mk (hbox); have n2_ := Aside0.mk ((by rw [hg]; exact (below_size (by repeat (first | (with_reducible first | exact HB.out | apply below_alloc | apply pw_below_drewN | apply below_drew1) | exact HB.out))) : w.heap.size ≤ gb31001)); have n3_ := Aside0.mk ((by rw [hg]; exact (below_size (by repeat (first | (with_reducible first | exact HB.out | apply below_alloc | apply pw_below_drewN | apply below_drew1) | exact HB.out))) : w.heap.size ≤ gb31001)); clear HB; have HB := n0_; have BK31001 := n1_; have GW31001 := n2_; have GE31001 := n3_; clear n0_ n1_ n2_ n3_; clear hb hbox hg) | ((with_reducible refine gate_dst (N := 3) rfl ?_); refine box_event ?hg (N := 3) ?hd (cs := #[.string a1_0, .int .i64 a1_1, .int .i64 a1_2, .int .u32 a1_3, .slice A1_4 l1_4.length c1_4]) (t := 51) ?hr ?_; (case hd => rfl); (case hg => rfl); (case hr => first | (go_simp; done) | (go_simp; rfl)); intro gb31002 hg w5 hbox hb; have n0_ := Aside0.mk (blk_below (g := gb31001) (o := .cells #[.slice A0_0 l0_0.length c0_0, .slice A0_1 l0_1.length c0_1, .slice A0_2 l0_2.length c0_2, .slice A0_3 l0_3.length c0_3, .int .u32 a0_4, .slice A0_5 l0_5.length c0_5, .int .i64 a0_6, .slice A0_7 l0_7.length c0_7, .int .i64 a0_8, .string a0_9] 32 (0, 0)) (by (with_reducible repeat (first | refine blk_drewN ?_ _ | refine blk_drew ?_ | refine blk_alloc ?_ _)); exact BK31001.out) hb); have n1_ := Aside0.mk (below_step (by repeat (first | (with_reducible first | exact HB.out | apply below_alloc | apply pw_below_drewN | apply below_drew1 | refine below_set ?_ GE31001.out) | exact HB.out)) hb); have n2_ := Aside0.mk (hbox); have n3_ := Aside0.mk ((by rw [hg]; exact (below_size (by repeat (first | (with_reducible first | exact HB.out | apply below_alloc | apply pw_below_drewN | apply below_drew1 | refine below_set ?_ GE31001.out) | exact HB.out))) : w.heap.size ≤ gb31002)); have n4_ := Aside0.mk ((by rw [hg]; exact (below_size (by repeat (first | (with_reducible first | exact HB.out | apply below_alloc | apply pw_below_drewN | apply below_drew1 | refine below_set ?_ GE31001.out) | exact HB.out))) : w.heap.size ≤ gb31002)); have n5_ := Aside0.mk ((by rw [hg]; exact Nat.ne_of_lt (blk_lt (g := gb31001) (o := .cells #[.slice A0_0 l0_0.length c0_0, .slice A0_1 l0_1.length c0_1, .slice A0_2 l0_2.length c0_2, .slice A0_3 l0_3.length c0_3, .int .u32 a0_4, .slice A0_5 l0_5.length c0_5, .int .i64 a0_6, .slice A0_7 l0_7.length c0_7, .int .i64 a0_8, .string a0_9] 32 (0, 0)) (by (with_reducible repeat (first | refine blk_drewN ?_ _ | refine blk_drew ?_ | refine blk_alloc ?_ _)); exact BK31001.out)) : gb31001 ≠ gb31002)); have n6_ := Aside0.mk ((by rw [hg]; exact Nat.ne_of_gt (blk_lt (g := gb31001) (o := .cells #[.slice A0_0 l0_0.length c0_0, .slice A0_1 l0_1.length c0_1, .slice A0_2 l0_2.length c0_2, .slice A0_3 l0_3.length c0_3, .int .u32 a0_4, .slice A0_5 l0_5.length c0_5, .int .i64 a0_6, .slice A0_7 l0_7.length c0_7, .int .i64 a0_8, .string a0_9] 32 (0, 0)) (by (with_reducible repeat (first | refine blk_drewN ?_ _ | refine blk_drew ?_ | refine blk_alloc ?_ _)); exact BK31001.out)) : gb31002 ≠ gb31001)); clear BK31001; clear HB; have BK31001 := n0_; have HB := n1_; have BK31002 := n2_; have GW31002 := n3_; have GE31002 := n4_; have NB31001_31002 := n5_; have NB31002_31001 := n6_; clear n0_ n1_ n2_ n3_ n4_ n5_ n6_; clear hb hbox hg) | ((with_reducible refine gate_dst (N := 4) rfl ?_); refine box_event ?hg (N := 4) ?hd (cs := #[.slice none 0 0, .slice none 0 0, .slice none 0 0, .slice none 0 0, .int .u32 0, .slice none 0 0, .int .i64 0, .slice none 0 0, .int .i64 0, .string (⟨#[]⟩ : ByteArray)]) (t := 32) ?hr ?_; (case hd => rfl); (case hg => rfl); (case hr => first | (go_simp; done) | (go_simp; rfl)); intro gb31003 hg w6 hbox hb; have n0_ := Aside0.mk (blk_below (g := gb31001) (o := .cells #[.slice A0_0 l0_0.length c0_0, .slice A0_1 l0_1.length c0_1, .slice A0_2 l0_2.length c0_2, .slice A0_3 l0_3.length c0_3, .int .u32 a0_4, .slice A0_5 l0_5.length c0_5, .int .i64 a0_6, .slice A0_7 l0_7.length c0_7, .int .i64 a0_8, .string a0_9] 32 (0, 0)) (by (with_reducible repeat (first | refine blk_drewN ?_ _ | refine blk_drew ?_ | refine blk_alloc ?_ _)); exact BK31001.out) hb); have n1_ := Aside0.mk (blk_below (g := gb31002) (o := .cells #[.string a1_0, .int .i64 a1_1, .int .i64 a1_2, .int .u32 a1_3, .slice A1_4 l1_4.length c1_4] 51 (0, 0)) (by (with_reducible repeat (first | refine blk_drewN ?_ _ | refine blk_drew ?_ | refine blk_alloc ?_ _)); exact BK31002.out) hb); have n2_ := Aside0.mk (below_step (by repeat (first | (with_reducible first | exact HB.out | apply below_alloc | apply pw_below_drewN | apply below_drew1 | refine below_set ?_ GE31001.out | refine below_set ?_ GE31002.out) | exact HB.out)) hb); have n3_ := Aside0.mk (hbox); have n4_ := Aside0.mk ((by rw [hg]; exact (below_size (by repeat (first | (with_reducible first | exact HB.out | apply below_alloc | apply pw_below_drewN | apply below_drew1 | refine below_set ?_ GE31001.out | refine below_set ?_ GE31002.out) | exact HB.out))) : w.heap.size ≤ gb31003)); have n5_ := Aside0.mk ((by rw [hg]; exact (below_size (by repeat (first | (with_reducible first | exact HB.out | apply below_alloc | apply pw_below_drewN | apply below_drew1 | refine below_set ?_ GE31001.out | refine below_set ?_ GE31002.out) | exact HB.out))) : w.heap.size ≤ gb31003)); have n6_ := Aside0.mk ((by rw [hg]; exact Nat.ne_of_lt (blk_lt (g := gb31001) (o := .cells #[.slice A0_0 l0_0.length c0_0, .slice A0_1 l0_1.length c0_1, .slice A0_2 l0_2.length c0_2, .slice A0_3 l0_3.length c0_3, .int .u32 a0_4, .slice A0_5 l0_5.length c0_5, .int .i64 a0_6, .slice A0_7 l0_7.length c0_7, .int .i64 a0_8, .string a0_9] 32 (0, 0)) (by (with_reducible repeat (first | refine blk_drewN ?_ _ | refine blk_drew ?_ | refine blk_alloc ?_ _)); exact BK31001.out)) : gb31001 ≠ gb31003)); have n7_ := Aside0.mk ((by rw [hg]; exact Nat.ne_of_gt (blk_lt (g := gb31001) (o := .cells #[.slice A0_0 l0_0.length c0_0, .slice A0_1 l0_1.length c0_1, .slice A0_2 l0_2.length c0_2, .slice A0_3 l0_3.length c0_3, .int .u32 a0_4, .slice A0_5 l0_5.length c0_5, .int .i64 a0_6, .slice A0_7 l0_7.length c0_7, .int .i64 a0_8, .string a0_9] 32 (0, 0)) (by (with_reducible repeat (first | refine blk_drewN ?_ _ | refine blk_drew ?_ | refine blk_alloc ?_ _)); exact BK31001.out)) : gb31003 ≠ gb31001)); have n8_ := Aside0.mk ((by rw [hg]; exact Nat.ne_of_lt (blk_lt (g := gb31002) (o := .cells #[.string a1_0, .int .i64 a1_1, .int .i64 a1_2, .int .u32 a1_3, .slice A1_4 l1_4.length c1_4] 51 (0, 0)) (by (with_reducible repeat (first | refine blk_drewN ?_ _ | refine blk_drew ?_ | refine blk_alloc ?_ _)); exact BK31002.out)) : gb31002 ≠ gb31003)); have n9_ := Aside0.mk ((by rw [hg]; exact Nat.ne_of_gt (blk_lt (g := gb31002) (o := .cells #[.string a1_0, .int .i64 a1_1, .int .i64 a1_2, .int .u32 a1_3, .slice A1_4 l1_4.length c1_4] 51 (0, 0)) (by (with_reducible repeat (first | refine blk_drewN ?_ _ | refine blk_drew ?_ | refine blk_alloc ?_ _)); exact BK31002.out)) : gb31003 ≠ gb31002)); clear BK31001; clear BK31002; clear HB; have BK31001 := n0_; have BK31002 := n1_; have HB := n2_; have BK31003 := n3_; have GW31003 := n4_; have GE31003 := n5_; have NB31001_31003 := n6_; have NB31003_31001 := n7_; have NB31002_31003 := n8_; have NB31003_31002 := n9_; clear n0_ n1_ n2_ n3_ n4_ n5_ n6_ n7_ n8_ n9_; clear hb hbox hg; have hnb7 := NB31001_31002.out; have hnc7 := NB31002_31001.out; have hnb8 := NB31001_31003.out; have hnc8 := NB31003_31001.out; have hcz9_0 : w6.cell? ⟨gb31001, 0, none⟩ = some (.slice A0_0 l0_0.length c0_0) := (blk_cell BK31001.out 0).trans rfl; have hcz9_1 : w6.cell? ⟨gb31001, 1, none⟩ = some (.slice A0_1 l0_1.length c0_1) := (blk_cell BK31001.out 1).trans rfl; have hcz9_2 : w6.cell? ⟨gb31001, 2, none⟩ = some (.slice A0_2 l0_2.length c0_2) := (blk_cell BK31001.out 2).trans rfl; have hcz9_3 : w6.cell? ⟨gb31001, 3, none⟩ = some (.slice A0_3 l0_3.length c0_3) := (blk_cell BK31001.out 3).trans rfl; have hcz9_4 : w6.cell? ⟨gb31001, 4, none⟩ = some (.int .u32 a0_4) := (blk_cell BK31001.out 4).trans rfl; have hcz9_5 : w6.cell? ⟨gb31001, 5, none⟩ = some (.slice A0_5 l0_5.length c0_5) := (blk_cell BK31001.out 5).trans rfl; have hcz9_6 : w6.cell? ⟨gb31001, 6, none⟩ = some (.int .i64 a0_6) := (blk_cell BK31001.out 6).trans rfl; have hcz9_7 : w6.cell? ⟨gb31001, 7, none⟩ = some (.slice A0_7 l0_7.length c0_7) := (blk_cell BK31001.out 7).trans rfl; have hcz9_8 : w6.cell? ⟨gb31001, 8, none⟩ = some (.int .i64 a0_8) := (blk_cell BK31001.out 8).trans rfl; have hcz9_9 : w6.cell? ⟨gb31001, 9, none⟩ = some (.string a0_9) := (blk_cell BK31001.out 9).trans rfl; have hfz9_0 := blk_frozen BK31001.out 0; have hfz9_1 := blk_frozen BK31001.out 1; have hfz9_2 := blk_frozen BK31001.out 2; have hfz9_3 := blk_frozen BK31001.out 3; have hfz9_4 := blk_frozen BK31001.out 4; have hfz9_5 := blk_frozen BK31001.out 5; have hfz9_6 := blk_frozen BK31001.out 6; have hfz9_7 := blk_frozen BK31001.out 7; have hfz9_8 := blk_frozen BK31001.out 8; have hfz9_9 := blk_frozen BK31001.out 9))
  (try simp only [Act.put, List.setIfInBounds_toArray, List.set_cons_zero, List.set_cons_succ])
  go_cut [11] (fun v11 wc => ∃ (kq : Nat) (x11_2 : Bool), v11 = .bool x11_2 ∧ Aside0 (dict_Define.j0 kq (l0_2.length : Int) x11_2 l0_0 l0_1 l0_2 l0_3 a0_4 l0_5 a0_6 l0_7 a0_8 a0_9 a1_0 a1_1 a1_2 a1_3 l1_4 = some (r1, r2, r3, r4, r5, r6, r7, r8, r9, r10, r11, r12)) ∧ Aside0 (kq ≤ k) ∧ Aside0 (wc.heap[gb31001]? = some (.cells #[(.slice A0_0 l0_0.length c0_0), (.slice A0_1 l0_1.length c0_1), (.slice A0_2 l0_2.length c0_2), (.slice A0_3 l0_3.length c0_3), .int .u32 a0_4, (.slice A0_5 l0_5.length c0_5), .int .i64 a0_6, (.slice A0_7 l0_7.length c0_7), .int .i64 a0_8, .string a0_9] 32 (0, 0))) ∧ Aside0 (wc.heap[gb31002]? = some (.cells #[.string a1_0, .int .i64 a1_1, .int .i64 a1_2, .int .u32 a1_3, (.slice A1_4 l1_4.length c1_4)] 51 (0, 0))) ∧ Aside0 (wc.heap[gb31003]? = some (.cells #[(.slice none 0 0), (.slice none 0 0), (.slice none 0 0), (.slice none 0 0), .int .u32 0, (.slice none 0 0), .int .i64 0, (.slice none 0 0), .int .i64 0, .string (⟨#[]⟩ : ByteArray)] 32 (0, 0))) ∧ Aside0 (Below w.heap.size w wc))
  case first =>
    have H := HC3.out
    clear HC3
    replace H := Option.bind_eq_some_iff.mp H
    obtain ⟨t31004, A100, H⟩ := H
    replace H : (if t31004 = true then ((dict_right.f k a1_0 a1_1 a1_2 a1_3 l1_4 (wrap64 ((l0_2.length : Int) + 1)) l0_5).bind fun t31005 => (dict_Define.j0 k (l0_2.length : Int) (!t31005) l0_0 l0_1 l0_2 l0_3 a0_4 l0_5 a0_6 l0_7 a0_8 a0_9 a1_0 a1_1 a1_2 a1_3 l1_4)) else (dict_Define.j0 k (l0_2.length : Int) true l0_0 l0_1 l0_2 l0_3 a0_4 l0_5 a0_6 l0_7 a0_8 a0_9 a1_0 a1_1 a1_2 a1_3 l1_4)) = some (r1, r2, r3, r4, r5, r6, r7, r8, r9, r10, r11, r12) := H
    have A10 := Aside0.mk A100
    clear A100
    by_cases c11 : t31004 = true
    · subst c11
      have H1 : ((dict_right.f k a1_0 a1_1 a1_2 a1_3 l1_4 (wrap64 ((l0_2.length : Int) + 1)) l0_5).bind fun t31005 => (dict_Define.j0 k (l0_2.length : Int) (!t31005) l0_0 l0_1 l0_2 l0_3 a0_4 l0_5 a0_6 l0_7 a0_8 a0_9 a1_0 a1_1 a1_2 a1_3 l1_4)) = some (r1, r2, r3, r4, r5, r6, r7, r8, r9, r10, r11, r12) := by rw [if_pos rfl] at H; exact H
      clear H
      have H := H1
      clear H1
      replace H := Option.bind_eq_some_iff.mp H
      obtain ⟨t31005, A120, H⟩ := H
      replace H : (dict_Define.j0 k (l0_2.length : Int) (!t31005) l0_0 l0_1 l0_2 l0_3 a0_4 l0_5 a0_6 l0_7 a0_8 a0_9 a1_0 a1_1 a1_2 a1_3 l1_4) = some (r1, r2, r3, r4, r5, r6, r7, r8, r9, r10, r11, r12) := H
      have A12 := Aside0.mk A120
      clear A120
      have H' := Aside0.mk H
      clear H
      have hnb13 := NB31001_31002.out
      have hnc13 := NB31002_31001.out
      have hnb14 := NB31001_31003.out
      have hnc14 := NB31003_31001.out
      have hcz15_0 : w6.cell? ⟨gb31001, 0, none⟩ = some (.slice A0_0 l0_0.length c0_0) := (blk_cell BK31001.out 0).trans rfl
      have hcz15_1 : w6.cell? ⟨gb31001, 1, none⟩ = some (.slice A0_1 l0_1.length c0_1) := (blk_cell BK31001.out 1).trans rfl
      have hcz15_2 : w6.cell? ⟨gb31001, 2, none⟩ = some (.slice A0_2 l0_2.length c0_2) := (blk_cell BK31001.out 2).trans rfl
      have hcz15_3 : w6.cell? ⟨gb31001, 3, none⟩ = some (.slice A0_3 l0_3.length c0_3) := (blk_cell BK31001.out 3).trans rfl
      have hcz15_4 : w6.cell? ⟨gb31001, 4, none⟩ = some (.int .u32 a0_4) := (blk_cell BK31001.out 4).trans rfl
      have hcz15_5 : w6.cell? ⟨gb31001, 5, none⟩ = some (.slice A0_5 l0_5.length c0_5) := (blk_cell BK31001.out 5).trans rfl
      have hcz15_6 : w6.cell? ⟨gb31001, 6, none⟩ = some (.int .i64 a0_6) := (blk_cell BK31001.out 6).trans rfl
      have hcz15_7 : w6.cell? ⟨gb31001, 7, none⟩ = some (.slice A0_7 l0_7.length c0_7) := (blk_cell BK31001.out 7).trans rfl
      have hcz15_8 : w6.cell? ⟨gb31001, 8, none⟩ = some (.int .i64 a0_8) := (blk_cell BK31001.out 8).trans rfl
      have hcz15_9 : w6.cell? ⟨gb31001, 9, none⟩ = some (.string a0_9) := (blk_cell BK31001.out 9).trans rfl
      have hfz15_0 := blk_frozen BK31001.out 0
      have hfz15_1 := blk_frozen BK31001.out 1
      have hfz15_2 := blk_frozen BK31001.out 2
      have hfz15_3 := blk_frozen BK31001.out 3
      have hfz15_4 := blk_frozen BK31001.out 4
      have hfz15_5 := blk_frozen BK31001.out 5
      have hfz15_6 := blk_frozen BK31001.out 6
      have hfz15_7 := blk_frozen BK31001.out 7
      have hfz15_8 := blk_frozen BK31001.out 8
      have hfz15_9 := blk_frozen BK31001.out 9
      go_wp2_with (first | ((with_reducible refine gate_callee (f := 26) rfl ?_); refine goesL_ (some 13) rfl rfl Try.func26 (by kernel_rfl) rfl #[.agg #[.slice A0_0 l0_0.length c0_0, .slice A0_1 l0_1.length c0_1, .slice A0_2 l0_2.length c0_2, .slice A0_3 l0_3.length c0_3, .int .u32 a0_4, .slice A0_5 l0_5.length c0_5, .int .i64 a0_6, .slice A0_7 l0_7.length c0_7, .int .i64 a0_8, .string a0_9]] rfl (by (try simp only [List.map_toArray, List.map_cons, List.map_nil]); first | done | rfl | (simp only [List.length_drop, List.length_take]; rfl)) ?_; (with_reducible refine (dict_Formed.calls _ _ l0_0 _ _ l0_1 _ _ l0_2 _ _ l0_3 a0_4 _ _ l0_5 a0_6 _ _ l0_7 a0_8 a0_9 true _ ?side1 ?side2 ?side3 ?side4 ?side5 ?side6 ?side7 ?side8 ?side9 ?side10 ?side11 ?side12 A10.out).mono ?_); (case side1 => repeat (first | exact (Kd.C_below HR0_0.out HB.out) | (with_reducible refine Kd.C_alloc ?_ _) | (with_reducible refine Kd.C_drewN ?_ _) | (with_reducible refine Kd.C_drew ?_))); (case side2 => exact HC0_0.out); (case side3 => repeat (first | exact (Kd.C_below HR0_1.out HB.out) | (with_reducible refine Kd.C_alloc ?_ _) | (with_reducible refine Kd.C_drewN ?_ _) | (with_reducible refine Kd.C_drew ?_))); (case side4 => exact HC0_1.out); (case side5 => repeat (first | exact (Kd.C_below HR0_2.out HB.out) | (with_reducible refine Kd.C_alloc ?_ _) | (with_reducible refine Kd.C_drewN ?_ _) | (with_reducible refine Kd.C_drew ?_))); (case side6 => exact HC0_2.out); (case side7 => repeat (first | exact (Kd.C_below HR0_3.out HB.out) | (with_reducible refine Kd.C_alloc ?_ _) | (with_reducible refine Kd.C_drewN ?_ _) | (with_reducible refine Kd.C_drew ?_))); (case side8 => exact HC0_3.out); (case side9 => repeat (first | exact (Kd.C_below HR0_5.out HB.out) | (with_reducible refine Kd.C_alloc ?_ _) | (with_reducible refine Kd.C_drewN ?_ _) | (with_reducible refine Kd.C_drew ?_))); (case side10 => exact HC0_5.out); (case side11 => repeat (first | exact (Kd.C_below HR0_7.out HB.out) | (with_reducible refine Kd.C_alloc ?_ _) | (with_reducible refine Kd.C_drewN ?_ _) | (with_reducible refine Kd.C_drew ?_))); (case side12 => exact HC0_7.out); rintro e w16 ⟨rfl, hb⟩; refine ⟨_, rfl, ?_⟩; have n0_ := Aside0.mk (blk_below (g := gb31001) (o := .cells #[.slice A0_0 l0_0.length c0_0, .slice A0_1 l0_1.length c0_1, .slice A0_2 l0_2.length c0_2, .slice A0_3 l0_3.length c0_3, .int .u32 a0_4, .slice A0_5 l0_5.length c0_5, .int .i64 a0_6, .slice A0_7 l0_7.length c0_7, .int .i64 a0_8, .string a0_9] 32 (0, 0)) (by (with_reducible repeat (first | refine blk_drewN ?_ _ | refine blk_drew ?_ | refine blk_alloc ?_ _)); exact BK31001.out) hb); have n1_ := Aside0.mk (blk_below (g := gb31002) (o := .cells #[.string a1_0, .int .i64 a1_1, .int .i64 a1_2, .int .u32 a1_3, .slice A1_4 l1_4.length c1_4] 51 (0, 0)) (by (with_reducible repeat (first | refine blk_drewN ?_ _ | refine blk_drew ?_ | refine blk_alloc ?_ _)); exact BK31002.out) hb); have n2_ := Aside0.mk (blk_below (g := gb31003) (o := .cells #[.slice none 0 0, .slice none 0 0, .slice none 0 0, .slice none 0 0, .int .u32 0, .slice none 0 0, .int .i64 0, .slice none 0 0, .int .i64 0, .string (⟨#[]⟩ : ByteArray)] 32 (0, 0)) (by (with_reducible repeat (first | refine blk_drewN ?_ _ | refine blk_drew ?_ | refine blk_alloc ?_ _)); exact BK31003.out) hb); have n3_ := Aside0.mk (below_step (by repeat (first | (with_reducible first | exact HB.out | apply below_alloc | apply pw_below_drewN | apply below_drew1 | refine below_set ?_ GE31001.out | refine below_set ?_ GE31002.out | refine below_set ?_ GE31003.out) | exact HB.out)) hb); clear BK31001; clear BK31002; clear BK31003; clear HB; have BK31001 := n0_; have BK31002 := n1_; have BK31003 := n2_; have HB := n3_; clear n0_ n1_ n2_ n3_; (try clear hb); (try clear hb2); (try clear hk); (try clear hi); have hnb17 := NB31002_31003.out; have hnc17 := NB31003_31002.out; have hcz18_0 : w16.cell? ⟨gb31002, 0, none⟩ = some (.string a1_0) := (blk_cell BK31002.out 0).trans rfl; have hcz18_1 : w16.cell? ⟨gb31002, 1, none⟩ = some (.int .i64 a1_1) := (blk_cell BK31002.out 1).trans rfl; have hcz18_2 : w16.cell? ⟨gb31002, 2, none⟩ = some (.int .i64 a1_2) := (blk_cell BK31002.out 2).trans rfl; have hcz18_3 : w16.cell? ⟨gb31002, 3, none⟩ = some (.int .u32 a1_3) := (blk_cell BK31002.out 3).trans rfl; have hcz18_4 : w16.cell? ⟨gb31002, 4, none⟩ = some (.slice A1_4 l1_4.length c1_4) := (blk_cell BK31002.out 4).trans rfl; have hfz18_0 := blk_frozen BK31002.out 0; have hfz18_1 := blk_frozen BK31002.out 1; have hfz18_2 := blk_frozen BK31002.out 2; have hfz18_3 := blk_frozen BK31002.out 3; have hfz18_4 := blk_frozen BK31002.out 4; have hcz19_0 : w16.cell? ⟨gb31001, 0, none⟩ = some (.slice A0_0 l0_0.length c0_0) := (blk_cell BK31001.out 0).trans rfl; have hcz19_1 : w16.cell? ⟨gb31001, 1, none⟩ = some (.slice A0_1 l0_1.length c0_1) := (blk_cell BK31001.out 1).trans rfl; have hcz19_2 : w16.cell? ⟨gb31001, 2, none⟩ = some (.slice A0_2 l0_2.length c0_2) := (blk_cell BK31001.out 2).trans rfl; have hcz19_3 : w16.cell? ⟨gb31001, 3, none⟩ = some (.slice A0_3 l0_3.length c0_3) := (blk_cell BK31001.out 3).trans rfl; have hcz19_4 : w16.cell? ⟨gb31001, 4, none⟩ = some (.int .u32 a0_4) := (blk_cell BK31001.out 4).trans rfl; have hcz19_5 : w16.cell? ⟨gb31001, 5, none⟩ = some (.slice A0_5 l0_5.length c0_5) := (blk_cell BK31001.out 5).trans rfl; have hcz19_6 : w16.cell? ⟨gb31001, 6, none⟩ = some (.int .i64 a0_6) := (blk_cell BK31001.out 6).trans rfl; have hcz19_7 : w16.cell? ⟨gb31001, 7, none⟩ = some (.slice A0_7 l0_7.length c0_7) := (blk_cell BK31001.out 7).trans rfl; have hcz19_8 : w16.cell? ⟨gb31001, 8, none⟩ = some (.int .i64 a0_8) := (blk_cell BK31001.out 8).trans rfl; have hcz19_9 : w16.cell? ⟨gb31001, 9, none⟩ = some (.string a0_9) := (blk_cell BK31001.out 9).trans rfl; have hfz19_0 := blk_frozen BK31001.out 0; have hfz19_1 := blk_frozen BK31001.out 1; have hfz19_2 := blk_frozen BK31001.out 2; have hfz19_3 := blk_frozen BK31001.out 3; have hfz19_4 := blk_frozen BK31001.out 4; have hfz19_5 := blk_frozen BK31001.out 5; have hfz19_6 := blk_frozen BK31001.out 6; have hfz19_7 := blk_frozen BK31001.out 7; have hfz19_8 := blk_frozen BK31001.out 8; have hfz19_9 := blk_frozen BK31001.out 9) | (go_at_call 65; (with_reducible refine (dict_right.calls k a1_0 a1_1 a1_2 a1_3 _ _ l1_4 (wrap64 ((l0_2.length : Int) + 1)) _ _ l0_5 t31005 _ ?side1 ?side2 ?side3 ?side4 A12.out).mono ?_); (case side1 => repeat (first | exact (Kd.C_below HR1_4.out HB.out) | (with_reducible refine Kd.C_alloc ?_ _) | (with_reducible refine Kd.C_drewN ?_ _) | (with_reducible refine Kd.C_drew ?_))); (case side2 => exact HC1_4.out); (case side3 => repeat (first | exact (Kd.C_below HR0_5.out HB.out) | (with_reducible refine Kd.C_alloc ?_ _) | (with_reducible refine Kd.C_drewN ?_ _) | (with_reducible refine Kd.C_drew ?_))); (case side4 => exact HC0_5.out); rintro e w20 ⟨rfl, hb⟩; have n0_ := Aside0.mk (blk_below (g := gb31001) (o := .cells #[.slice A0_0 l0_0.length c0_0, .slice A0_1 l0_1.length c0_1, .slice A0_2 l0_2.length c0_2, .slice A0_3 l0_3.length c0_3, .int .u32 a0_4, .slice A0_5 l0_5.length c0_5, .int .i64 a0_6, .slice A0_7 l0_7.length c0_7, .int .i64 a0_8, .string a0_9] 32 (0, 0)) (by (with_reducible repeat (first | refine blk_drewN ?_ _ | refine blk_drew ?_ | refine blk_alloc ?_ _)); exact BK31001.out) hb); have n1_ := Aside0.mk (blk_below (g := gb31002) (o := .cells #[.string a1_0, .int .i64 a1_1, .int .i64 a1_2, .int .u32 a1_3, .slice A1_4 l1_4.length c1_4] 51 (0, 0)) (by (with_reducible repeat (first | refine blk_drewN ?_ _ | refine blk_drew ?_ | refine blk_alloc ?_ _)); exact BK31002.out) hb); have n2_ := Aside0.mk (blk_below (g := gb31003) (o := .cells #[.slice none 0 0, .slice none 0 0, .slice none 0 0, .slice none 0 0, .int .u32 0, .slice none 0 0, .int .i64 0, .slice none 0 0, .int .i64 0, .string (⟨#[]⟩ : ByteArray)] 32 (0, 0)) (by (with_reducible repeat (first | refine blk_drewN ?_ _ | refine blk_drew ?_ | refine blk_alloc ?_ _)); exact BK31003.out) hb); have n3_ := Aside0.mk (below_step (by repeat (first | (with_reducible first | exact HB.out | apply below_alloc | apply pw_below_drewN | apply below_drew1 | refine below_set ?_ GE31001.out | refine below_set ?_ GE31002.out | refine below_set ?_ GE31003.out) | exact HB.out)) hb); clear BK31001; clear BK31002; clear BK31003; clear HB; have BK31001 := n0_; have BK31002 := n1_; have BK31003 := n2_; have HB := n3_; clear n0_ n1_ n2_ n3_; (try clear hb); (try clear hb2); (try clear hk); (try clear hi)))
      go_meet
      case rel => exact ⟨_, (!t31005), (by first | rfl | (simp; done) | (simp [*]; done)), H', ⟨by first | omega | exact Nat.le_refl _⟩, ⟨by (with_reducible repeat (first | refine blk_drewN ?_ _ | refine blk_drew ?_ | refine blk_alloc ?_ _)); exact BK31001.out⟩, ⟨by (with_reducible repeat (first | refine blk_drewN ?_ _ | refine blk_drew ?_ | refine blk_alloc ?_ _)); exact BK31002.out⟩, ⟨by (with_reducible repeat (first | refine blk_drewN ?_ _ | refine blk_drew ?_ | refine blk_alloc ?_ _)); exact BK31003.out⟩, ⟨by repeat (first | (with_reducible first | exact HB.out | apply below_alloc | apply pw_below_drewN | apply below_drew1 | refine below_set ?_ GE31001.out | refine below_set ?_ GE31002.out | refine below_set ?_ GE31003.out) | exact HB.out)⟩⟩
    · replace c11 := Bool.eq_false_iff.mpr c11
      subst c11
      have H1 : (dict_Define.j0 k (l0_2.length : Int) true l0_0 l0_1 l0_2 l0_3 a0_4 l0_5 a0_6 l0_7 a0_8 a0_9 a1_0 a1_1 a1_2 a1_3 l1_4) = some (r1, r2, r3, r4, r5, r6, r7, r8, r9, r10, r11, r12) := by rw [if_neg (show ¬ (false = true) by decide)] at H; exact H
      clear H
      have H := H1
      clear H1
      have H' := Aside0.mk H
      clear H
      have hnb21 := NB31001_31002.out
      have hnc21 := NB31002_31001.out
      have hnb22 := NB31001_31003.out
      have hnc22 := NB31003_31001.out
      have hcz23_0 : w6.cell? ⟨gb31001, 0, none⟩ = some (.slice A0_0 l0_0.length c0_0) := (blk_cell BK31001.out 0).trans rfl
      have hcz23_1 : w6.cell? ⟨gb31001, 1, none⟩ = some (.slice A0_1 l0_1.length c0_1) := (blk_cell BK31001.out 1).trans rfl
      have hcz23_2 : w6.cell? ⟨gb31001, 2, none⟩ = some (.slice A0_2 l0_2.length c0_2) := (blk_cell BK31001.out 2).trans rfl
      have hcz23_3 : w6.cell? ⟨gb31001, 3, none⟩ = some (.slice A0_3 l0_3.length c0_3) := (blk_cell BK31001.out 3).trans rfl
      have hcz23_4 : w6.cell? ⟨gb31001, 4, none⟩ = some (.int .u32 a0_4) := (blk_cell BK31001.out 4).trans rfl
      have hcz23_5 : w6.cell? ⟨gb31001, 5, none⟩ = some (.slice A0_5 l0_5.length c0_5) := (blk_cell BK31001.out 5).trans rfl
      have hcz23_6 : w6.cell? ⟨gb31001, 6, none⟩ = some (.int .i64 a0_6) := (blk_cell BK31001.out 6).trans rfl
      have hcz23_7 : w6.cell? ⟨gb31001, 7, none⟩ = some (.slice A0_7 l0_7.length c0_7) := (blk_cell BK31001.out 7).trans rfl
      have hcz23_8 : w6.cell? ⟨gb31001, 8, none⟩ = some (.int .i64 a0_8) := (blk_cell BK31001.out 8).trans rfl
      have hcz23_9 : w6.cell? ⟨gb31001, 9, none⟩ = some (.string a0_9) := (blk_cell BK31001.out 9).trans rfl
      have hfz23_0 := blk_frozen BK31001.out 0
      have hfz23_1 := blk_frozen BK31001.out 1
      have hfz23_2 := blk_frozen BK31001.out 2
      have hfz23_3 := blk_frozen BK31001.out 3
      have hfz23_4 := blk_frozen BK31001.out 4
      have hfz23_5 := blk_frozen BK31001.out 5
      have hfz23_6 := blk_frozen BK31001.out 6
      have hfz23_7 := blk_frozen BK31001.out 7
      have hfz23_8 := blk_frozen BK31001.out 8
      have hfz23_9 := blk_frozen BK31001.out 9
      go_wp2_with (first | ((with_reducible refine gate_callee (f := 26) rfl ?_); refine goesL_ (some 13) rfl rfl Try.func26 (by kernel_rfl) rfl #[.agg #[.slice A0_0 l0_0.length c0_0, .slice A0_1 l0_1.length c0_1, .slice A0_2 l0_2.length c0_2, .slice A0_3 l0_3.length c0_3, .int .u32 a0_4, .slice A0_5 l0_5.length c0_5, .int .i64 a0_6, .slice A0_7 l0_7.length c0_7, .int .i64 a0_8, .string a0_9]] rfl (by (try simp only [List.map_toArray, List.map_cons, List.map_nil]); first | done | rfl | (simp only [List.length_drop, List.length_take]; rfl)) ?_; (with_reducible refine (dict_Formed.calls _ _ l0_0 _ _ l0_1 _ _ l0_2 _ _ l0_3 a0_4 _ _ l0_5 a0_6 _ _ l0_7 a0_8 a0_9 false _ ?side1 ?side2 ?side3 ?side4 ?side5 ?side6 ?side7 ?side8 ?side9 ?side10 ?side11 ?side12 A10.out).mono ?_); (case side1 => repeat (first | exact (Kd.C_below HR0_0.out HB.out) | (with_reducible refine Kd.C_alloc ?_ _) | (with_reducible refine Kd.C_drewN ?_ _) | (with_reducible refine Kd.C_drew ?_))); (case side2 => exact HC0_0.out); (case side3 => repeat (first | exact (Kd.C_below HR0_1.out HB.out) | (with_reducible refine Kd.C_alloc ?_ _) | (with_reducible refine Kd.C_drewN ?_ _) | (with_reducible refine Kd.C_drew ?_))); (case side4 => exact HC0_1.out); (case side5 => repeat (first | exact (Kd.C_below HR0_2.out HB.out) | (with_reducible refine Kd.C_alloc ?_ _) | (with_reducible refine Kd.C_drewN ?_ _) | (with_reducible refine Kd.C_drew ?_))); (case side6 => exact HC0_2.out); (case side7 => repeat (first | exact (Kd.C_below HR0_3.out HB.out) | (with_reducible refine Kd.C_alloc ?_ _) | (with_reducible refine Kd.C_drewN ?_ _) | (with_reducible refine Kd.C_drew ?_))); (case side8 => exact HC0_3.out); (case side9 => repeat (first | exact (Kd.C_below HR0_5.out HB.out) | (with_reducible refine Kd.C_alloc ?_ _) | (with_reducible refine Kd.C_drewN ?_ _) | (with_reducible refine Kd.C_drew ?_))); (case side10 => exact HC0_5.out); (case side11 => repeat (first | exact (Kd.C_below HR0_7.out HB.out) | (with_reducible refine Kd.C_alloc ?_ _) | (with_reducible refine Kd.C_drewN ?_ _) | (with_reducible refine Kd.C_drew ?_))); (case side12 => exact HC0_7.out); rintro e w24 ⟨rfl, hb⟩; refine ⟨_, rfl, ?_⟩; have n0_ := Aside0.mk (blk_below (g := gb31001) (o := .cells #[.slice A0_0 l0_0.length c0_0, .slice A0_1 l0_1.length c0_1, .slice A0_2 l0_2.length c0_2, .slice A0_3 l0_3.length c0_3, .int .u32 a0_4, .slice A0_5 l0_5.length c0_5, .int .i64 a0_6, .slice A0_7 l0_7.length c0_7, .int .i64 a0_8, .string a0_9] 32 (0, 0)) (by (with_reducible repeat (first | refine blk_drewN ?_ _ | refine blk_drew ?_ | refine blk_alloc ?_ _)); exact BK31001.out) hb); have n1_ := Aside0.mk (blk_below (g := gb31002) (o := .cells #[.string a1_0, .int .i64 a1_1, .int .i64 a1_2, .int .u32 a1_3, .slice A1_4 l1_4.length c1_4] 51 (0, 0)) (by (with_reducible repeat (first | refine blk_drewN ?_ _ | refine blk_drew ?_ | refine blk_alloc ?_ _)); exact BK31002.out) hb); have n2_ := Aside0.mk (blk_below (g := gb31003) (o := .cells #[.slice none 0 0, .slice none 0 0, .slice none 0 0, .slice none 0 0, .int .u32 0, .slice none 0 0, .int .i64 0, .slice none 0 0, .int .i64 0, .string (⟨#[]⟩ : ByteArray)] 32 (0, 0)) (by (with_reducible repeat (first | refine blk_drewN ?_ _ | refine blk_drew ?_ | refine blk_alloc ?_ _)); exact BK31003.out) hb); have n3_ := Aside0.mk (below_step (by repeat (first | (with_reducible first | exact HB.out | apply below_alloc | apply pw_below_drewN | apply below_drew1 | refine below_set ?_ GE31001.out | refine below_set ?_ GE31002.out | refine below_set ?_ GE31003.out) | exact HB.out)) hb); clear BK31001; clear BK31002; clear BK31003; clear HB; have BK31001 := n0_; have BK31002 := n1_; have BK31003 := n2_; have HB := n3_; clear n0_ n1_ n2_ n3_; (try clear hb); (try clear hb2); (try clear hk); (try clear hi)))
      go_meet
      case rel => exact ⟨_, (true), (by first | rfl | (simp; done) | (simp [*]; done)), H', ⟨by first | omega | exact Nat.le_refl _⟩, ⟨by (with_reducible repeat (first | refine blk_drewN ?_ _ | refine blk_drew ?_ | refine blk_alloc ?_ _)); exact BK31001.out⟩, ⟨by (with_reducible repeat (first | refine blk_drewN ?_ _ | refine blk_drew ?_ | refine blk_alloc ?_ _)); exact BK31002.out⟩, ⟨by (with_reducible repeat (first | refine blk_drewN ?_ _ | refine blk_drew ?_ | refine blk_alloc ?_ _)); exact BK31003.out⟩, ⟨by repeat (first | (with_reducible first | exact HB.out | apply below_alloc | apply pw_below_drewN | apply below_drew1 | refine below_set ?_ GE31001.out | refine below_set ?_ GE31002.out | refine below_set ?_ GE31003.out) | exact HB.out)⟩⟩
  case rest =>
    clear HC3
    try clear c1
    try clear c2
    try clear p2
    try clear c3
    try clear p6
    try clear c7
    try clear c8
    try clear c11
    try clear c13
    try clear c14
    try clear c17
    try clear c21
    try clear c22
    try clear hcz15_0
    try clear hcz15_1
    try clear hcz15_2
    try clear hcz15_3
    try clear hcz15_4
    try clear hcz15_5
    try clear hcz15_6
    try clear hcz15_7
    try clear hcz15_8
    try clear hcz15_9
    try clear hcz18_0
    try clear hcz18_1
    try clear hcz18_2
    try clear hcz18_3
    try clear hcz18_4
    try clear hcz19_0
    try clear hcz19_1
    try clear hcz19_2
    try clear hcz19_3
    try clear hcz19_4
    try clear hcz19_5
    try clear hcz19_6
    try clear hcz19_7
    try clear hcz19_8
    try clear hcz19_9
    try clear hcz23_0
    try clear hcz23_1
    try clear hcz23_2
    try clear hcz23_3
    try clear hcz23_4
    try clear hcz23_5
    try clear hcz23_6
    try clear hcz23_7
    try clear hcz23_8
    try clear hcz23_9
    try clear hcz9_0
    try clear hcz9_1
    try clear hcz9_2
    try clear hcz9_3
    try clear hcz9_4
    try clear hcz9_5
    try clear hcz9_6
    try clear hcz9_7
    try clear hcz9_8
    try clear hcz9_9
    try clear hfz15_0
    try clear hfz15_1
    try clear hfz15_2
    try clear hfz15_3
    try clear hfz15_4
    try clear hfz15_5
    try clear hfz15_6
    try clear hfz15_7
    try clear hfz15_8
    try clear hfz15_9
    try clear hfz18_0
    try clear hfz18_1
    try clear hfz18_2
    try clear hfz18_3
    try clear hfz18_4
    try clear hfz19_0
    try clear hfz19_1
    try clear hfz19_2
    try clear hfz19_3
    try clear hfz19_4
    try clear hfz19_5
    try clear hfz19_6
    try clear hfz19_7
    try clear hfz19_8
    try clear hfz19_9
    try clear hfz23_0
    try clear hfz23_1
    try clear hfz23_2
    try clear hfz23_3
    try clear hfz23_4
    try clear hfz23_5
    try clear hfz23_6
    try clear hfz23_7
    try clear hfz23_8
    try clear hfz23_9
    try clear hfz9_0
    try clear hfz9_1
    try clear hfz9_2
    try clear hfz9_3
    try clear hfz9_4
    try clear hfz9_5
    try clear hfz9_6
    try clear hfz9_7
    try clear hfz9_8
    try clear hfz9_9
    obtain ⟨kq, x11_2, rfl, HA, HJ2, BK31001, BK31002, BK31003, HB⟩ := hcut
    cases kq with
    | zero => exact absurd HA.out (by simp [dict_Define.j0])
    | succ kj2 =>
      have H := HA.out
      clear HA
      simp only [dict_Define.j0] at H
      by_cases c25 : x11_2 = true
      · subst c25
        have H1 : (some (([] : List Int), ([] : List Int), ([] : List (S51)), ([] : List Int), 0, ([] : List (S91)), 0, ([] : List (S82)), 0, (⟨#[]⟩ : ByteArray), 0, 1)) = some (r1, r2, r3, r4, r5, r6, r7, r8, r9, r10, r11, r12) := by rw [if_pos rfl] at H; exact H
        clear H
        have H := H1
        clear H1
        simp only [Option.some.injEq, Prod.mk.injEq] at H
        obtain ⟨rfl, rfl, rfl, rfl, rfl, rfl, rfl, rfl, rfl, rfl, rfl, rfl⟩ := H
        have hnb26 := NB31003_31001.out
        have hnc26 := NB31001_31003.out
        have hnb27 := NB31003_31002.out
        have hnc27 := NB31002_31003.out
        have hcz28_0 : wc.cell? ⟨gb31003, 0, none⟩ = some (.slice none 0 0) := (blk_cell BK31003.out 0).trans rfl
        have hcz28_1 : wc.cell? ⟨gb31003, 1, none⟩ = some (.slice none 0 0) := (blk_cell BK31003.out 1).trans rfl
        have hcz28_2 : wc.cell? ⟨gb31003, 2, none⟩ = some (.slice none 0 0) := (blk_cell BK31003.out 2).trans rfl
        have hcz28_3 : wc.cell? ⟨gb31003, 3, none⟩ = some (.slice none 0 0) := (blk_cell BK31003.out 3).trans rfl
        have hcz28_4 : wc.cell? ⟨gb31003, 4, none⟩ = some (.int .u32 0) := (blk_cell BK31003.out 4).trans rfl
        have hcz28_5 : wc.cell? ⟨gb31003, 5, none⟩ = some (.slice none 0 0) := (blk_cell BK31003.out 5).trans rfl
        have hcz28_6 : wc.cell? ⟨gb31003, 6, none⟩ = some (.int .i64 0) := (blk_cell BK31003.out 6).trans rfl
        have hcz28_7 : wc.cell? ⟨gb31003, 7, none⟩ = some (.slice none 0 0) := (blk_cell BK31003.out 7).trans rfl
        have hcz28_8 : wc.cell? ⟨gb31003, 8, none⟩ = some (.int .i64 0) := (blk_cell BK31003.out 8).trans rfl
        have hcz28_9 : wc.cell? ⟨gb31003, 9, none⟩ = some (.string (⟨#[]⟩ : ByteArray)) := (blk_cell BK31003.out 9).trans rfl
        have hfz28_0 := blk_frozen BK31003.out 0
        have hfz28_1 := blk_frozen BK31003.out 1
        have hfz28_2 := blk_frozen BK31003.out 2
        have hfz28_3 := blk_frozen BK31003.out 3
        have hfz28_4 := blk_frozen BK31003.out 4
        have hfz28_5 := blk_frozen BK31003.out 5
        have hfz28_6 := blk_frozen BK31003.out 6
        have hfz28_7 := blk_frozen BK31003.out 7
        have hfz28_8 := blk_frozen BK31003.out 8
        have hfz28_9 := blk_frozen BK31003.out 9
        go_wp2
        refine bodyPost_ret (results_ctt rfl _ _ gb31003 32 #[.slice none 0 0, .slice none 0 0, .slice none 0 0, .slice none 0 0, .int .u32 0, .slice none 0 0, .int .i64 0, .slice none 0 0, .int .i64 0, .string (⟨#[]⟩ : ByteArray)] (0, 0) _ rfl (by (with_reducible repeat (first | refine blk_drewN ?_ _ | refine blk_drew ?_ | refine blk_alloc ?_ _)); refine blk_put (cs := #[.slice none 0 0, .slice none 0 0, .slice none 0 0, .slice none 0 0, .int .u32 0, .slice none 0 0, .int .i64 0, .slice none 0 0, .int .i64 0, .string (⟨#[]⟩ : ByteArray)]) ?_ 9 _ rfl; (with_reducible repeat (first | refine blk_drewN ?_ _ | refine blk_drew ?_ | refine blk_alloc ?_ _)); refine blk_put (cs := #[.slice none 0 0, .slice none 0 0, .slice none 0 0, .slice none 0 0, .int .u32 0, .slice none 0 0, .int .i64 0, .slice none 0 0, .int .i64 0, .string (⟨#[]⟩ : ByteArray)]) ?_ 8 _ rfl; (with_reducible repeat (first | refine blk_drewN ?_ _ | refine blk_drew ?_ | refine blk_alloc ?_ _)); refine blk_put (cs := #[.slice none 0 0, .slice none 0 0, .slice none 0 0, .slice none 0 0, .int .u32 0, .slice none 0 0, .int .i64 0, .slice none 0 0, .int .i64 0, .string (⟨#[]⟩ : ByteArray)]) ?_ 7 _ rfl; (with_reducible repeat (first | refine blk_drewN ?_ _ | refine blk_drew ?_ | refine blk_alloc ?_ _)); refine blk_put (cs := #[.slice none 0 0, .slice none 0 0, .slice none 0 0, .slice none 0 0, .int .u32 0, .slice none 0 0, .int .i64 0, .slice none 0 0, .int .i64 0, .string (⟨#[]⟩ : ByteArray)]) ?_ 6 _ rfl; (with_reducible repeat (first | refine blk_drewN ?_ _ | refine blk_drew ?_ | refine blk_alloc ?_ _)); refine blk_put (cs := #[.slice none 0 0, .slice none 0 0, .slice none 0 0, .slice none 0 0, .int .u32 0, .slice none 0 0, .int .i64 0, .slice none 0 0, .int .i64 0, .string (⟨#[]⟩ : ByteArray)]) ?_ 5 _ rfl; (with_reducible repeat (first | refine blk_drewN ?_ _ | refine blk_drew ?_ | refine blk_alloc ?_ _)); refine blk_put (cs := #[.slice none 0 0, .slice none 0 0, .slice none 0 0, .slice none 0 0, .int .u32 0, .slice none 0 0, .int .i64 0, .slice none 0 0, .int .i64 0, .string (⟨#[]⟩ : ByteArray)]) ?_ 4 _ rfl; (with_reducible repeat (first | refine blk_drewN ?_ _ | refine blk_drew ?_ | refine blk_alloc ?_ _)); refine blk_put (cs := #[.slice none 0 0, .slice none 0 0, .slice none 0 0, .slice none 0 0, .int .u32 0, .slice none 0 0, .int .i64 0, .slice none 0 0, .int .i64 0, .string (⟨#[]⟩ : ByteArray)]) ?_ 3 _ rfl; (with_reducible repeat (first | refine blk_drewN ?_ _ | refine blk_drew ?_ | refine blk_alloc ?_ _)); refine blk_put (cs := #[.slice none 0 0, .slice none 0 0, .slice none 0 0, .slice none 0 0, .int .u32 0, .slice none 0 0, .int .i64 0, .slice none 0 0, .int .i64 0, .string (⟨#[]⟩ : ByteArray)]) ?_ 2 _ rfl; (with_reducible repeat (first | refine blk_drewN ?_ _ | refine blk_drew ?_ | refine blk_alloc ?_ _)); refine blk_put (cs := #[.slice none 0 0, .slice none 0 0, .slice none 0 0, .slice none 0 0, .int .u32 0, .slice none 0 0, .int .i64 0, .slice none 0 0, .int .i64 0, .string (⟨#[]⟩ : ByteArray)]) ?_ 1 _ rfl; (with_reducible repeat (first | refine blk_drewN ?_ _ | refine blk_drew ?_ | refine blk_alloc ?_ _)); refine blk_put (cs := #[.slice none 0 0, .slice none 0 0, .slice none 0 0, .slice none 0 0, .int .u32 0, .slice none 0 0, .int .i64 0, .slice none 0 0, .int .i64 0, .string (⟨#[]⟩ : ByteArray)]) ?_ 0 _ rfl; (with_reducible repeat (first | refine blk_drewN ?_ _ | refine blk_drew ?_ | refine blk_alloc ?_ _)); exact BK31003.out) Try.underlying32 rfl (by kernel_rfl)) rfl ?_
        exact ⟨_, _, _, _, _, _, by first | rfl | (simp [errW_none, errW_some] <;> rfl) | (simp [*, errW_none, errW_some] <;> rfl), by first | exact Kd.R_nil _ _ _ _ _ | exact Kd.N_nil _ _ _ _ _ | exact Kd.V_nil _ _ _ _ _ | exact Kd.Q_nil _ _ _ _ _ | exact Kd.S_nil _ _ _ _ _, by first | exact Kd.R_nil _ _ _ _ _ | exact Kd.N_nil _ _ _ _ _ | exact Kd.V_nil _ _ _ _ _ | exact Kd.Q_nil _ _ _ _ _ | exact Kd.S_nil _ _ _ _ _, by first | exact Kd.S_nil _ _ _ _ _ | exact Kd.N_nil _ _ _ _ _ | exact Kd.V_nil _ _ _ _ _ | exact Kd.Q_nil _ _ _ _ _ | exact Kd.R_nil _ _ _ _ _, by first | exact Kd.R_nil _ _ _ _ _ | exact Kd.N_nil _ _ _ _ _ | exact Kd.V_nil _ _ _ _ _ | exact Kd.Q_nil _ _ _ _ _ | exact Kd.S_nil _ _ _ _ _, by first | exact Kd.R_nil _ _ _ _ _ | exact Kd.N_nil _ _ _ _ _ | exact Kd.V_nil _ _ _ _ _ | exact Kd.Q_nil _ _ _ _ _ | exact Kd.S_nil _ _ _ _ _, by first | exact Kd.S_nil _ _ _ _ _ | exact Kd.N_nil _ _ _ _ _ | exact Kd.V_nil _ _ _ _ _ | exact Kd.Q_nil _ _ _ _ _ | exact Kd.R_nil _ _ _ _ _, by repeat (first | (with_reducible first | exact HB.out | apply below_alloc | apply pw_below_drewN | apply below_drew1 | refine below_set ?_ GE31001.out | refine below_set ?_ GE31002.out | refine below_set ?_ GE31003.out) | exact HB.out)⟩
      · replace c25 := Bool.eq_false_iff.mpr c25
        subst c25
        have H1 : (if (l0_2.length : Int) = 640 then (some (([] : List Int), ([] : List Int), ([] : List (S51)), ([] : List Int), 0, ([] : List (S91)), 0, ([] : List (S82)), 0, (⟨#[]⟩ : ByteArray), 0, 22)) else ((dict_Copy.f l0_0 l0_1 l0_2 l0_3 a0_4 l0_5 a0_6 l0_7 a0_8 a0_9).bind fun bt31006 => ((api_Op.f l1_4).bind fun t31028 => (if bt31006.2.2.1.length < 2199023255552 then (some (bt31006.1, bt31006.2.1, (bt31006.2.2.1 ++ [(⟨a1_0, a1_1, a1_2, a1_3, t31028⟩ : S51)]), bt31006.2.2.2.1, bt31006.2.2.2.2.1, bt31006.2.2.2.2.2.1, bt31006.2.2.2.2.2.2.1, bt31006.2.2.2.2.2.2.2.1, bt31006.2.2.2.2.2.2.2.2.1, bt31006.2.2.2.2.2.2.2.2.2, (l0_2.length : Int), 0)) else (none))))) = some (r1, r2, r3, r4, r5, r6, r7, r8, r9, r10, r11, r12) := by rw [if_neg (show ¬ (false = true) by decide)] at H; exact H
        clear H
        have H := H1
        clear H1
        by_cases c29 : (l0_2.length : Int) = 640
        · rw [if_pos c29] at H
          have c29b0 : ((l0_2.length : Int) == 640) = true := beq_iff_eq.mpr c29
          have c29b1 : ((l0_2.length : Int) != 640) = false := bne_eq_false_iff_eq.mpr c29
          clear c29
          simp only [Option.some.injEq, Prod.mk.injEq] at H
          obtain ⟨rfl, rfl, rfl, rfl, rfl, rfl, rfl, rfl, rfl, rfl, rfl, rfl⟩ := H
          have hnb30 := NB31003_31001.out
          have hnc30 := NB31001_31003.out
          have hnb31 := NB31003_31002.out
          have hnc31 := NB31002_31003.out
          have hcz32_0 : wc.cell? ⟨gb31003, 0, none⟩ = some (.slice none 0 0) := (blk_cell BK31003.out 0).trans rfl
          have hcz32_1 : wc.cell? ⟨gb31003, 1, none⟩ = some (.slice none 0 0) := (blk_cell BK31003.out 1).trans rfl
          have hcz32_2 : wc.cell? ⟨gb31003, 2, none⟩ = some (.slice none 0 0) := (blk_cell BK31003.out 2).trans rfl
          have hcz32_3 : wc.cell? ⟨gb31003, 3, none⟩ = some (.slice none 0 0) := (blk_cell BK31003.out 3).trans rfl
          have hcz32_4 : wc.cell? ⟨gb31003, 4, none⟩ = some (.int .u32 0) := (blk_cell BK31003.out 4).trans rfl
          have hcz32_5 : wc.cell? ⟨gb31003, 5, none⟩ = some (.slice none 0 0) := (blk_cell BK31003.out 5).trans rfl
          have hcz32_6 : wc.cell? ⟨gb31003, 6, none⟩ = some (.int .i64 0) := (blk_cell BK31003.out 6).trans rfl
          have hcz32_7 : wc.cell? ⟨gb31003, 7, none⟩ = some (.slice none 0 0) := (blk_cell BK31003.out 7).trans rfl
          have hcz32_8 : wc.cell? ⟨gb31003, 8, none⟩ = some (.int .i64 0) := (blk_cell BK31003.out 8).trans rfl
          have hcz32_9 : wc.cell? ⟨gb31003, 9, none⟩ = some (.string (⟨#[]⟩ : ByteArray)) := (blk_cell BK31003.out 9).trans rfl
          have hfz32_0 := blk_frozen BK31003.out 0
          have hfz32_1 := blk_frozen BK31003.out 1
          have hfz32_2 := blk_frozen BK31003.out 2
          have hfz32_3 := blk_frozen BK31003.out 3
          have hfz32_4 := blk_frozen BK31003.out 4
          have hfz32_5 := blk_frozen BK31003.out 5
          have hfz32_6 := blk_frozen BK31003.out 6
          have hfz32_7 := blk_frozen BK31003.out 7
          have hfz32_8 := blk_frozen BK31003.out 8
          have hfz32_9 := blk_frozen BK31003.out 9
          go_wp2
          refine bodyPost_ret (results_ctt rfl _ _ gb31003 32 #[.slice none 0 0, .slice none 0 0, .slice none 0 0, .slice none 0 0, .int .u32 0, .slice none 0 0, .int .i64 0, .slice none 0 0, .int .i64 0, .string (⟨#[]⟩ : ByteArray)] (0, 0) _ rfl (by (with_reducible repeat (first | refine blk_drewN ?_ _ | refine blk_drew ?_ | refine blk_alloc ?_ _)); refine blk_put (cs := #[.slice none 0 0, .slice none 0 0, .slice none 0 0, .slice none 0 0, .int .u32 0, .slice none 0 0, .int .i64 0, .slice none 0 0, .int .i64 0, .string (⟨#[]⟩ : ByteArray)]) ?_ 9 _ rfl; (with_reducible repeat (first | refine blk_drewN ?_ _ | refine blk_drew ?_ | refine blk_alloc ?_ _)); refine blk_put (cs := #[.slice none 0 0, .slice none 0 0, .slice none 0 0, .slice none 0 0, .int .u32 0, .slice none 0 0, .int .i64 0, .slice none 0 0, .int .i64 0, .string (⟨#[]⟩ : ByteArray)]) ?_ 8 _ rfl; (with_reducible repeat (first | refine blk_drewN ?_ _ | refine blk_drew ?_ | refine blk_alloc ?_ _)); refine blk_put (cs := #[.slice none 0 0, .slice none 0 0, .slice none 0 0, .slice none 0 0, .int .u32 0, .slice none 0 0, .int .i64 0, .slice none 0 0, .int .i64 0, .string (⟨#[]⟩ : ByteArray)]) ?_ 7 _ rfl; (with_reducible repeat (first | refine blk_drewN ?_ _ | refine blk_drew ?_ | refine blk_alloc ?_ _)); refine blk_put (cs := #[.slice none 0 0, .slice none 0 0, .slice none 0 0, .slice none 0 0, .int .u32 0, .slice none 0 0, .int .i64 0, .slice none 0 0, .int .i64 0, .string (⟨#[]⟩ : ByteArray)]) ?_ 6 _ rfl; (with_reducible repeat (first | refine blk_drewN ?_ _ | refine blk_drew ?_ | refine blk_alloc ?_ _)); refine blk_put (cs := #[.slice none 0 0, .slice none 0 0, .slice none 0 0, .slice none 0 0, .int .u32 0, .slice none 0 0, .int .i64 0, .slice none 0 0, .int .i64 0, .string (⟨#[]⟩ : ByteArray)]) ?_ 5 _ rfl; (with_reducible repeat (first | refine blk_drewN ?_ _ | refine blk_drew ?_ | refine blk_alloc ?_ _)); refine blk_put (cs := #[.slice none 0 0, .slice none 0 0, .slice none 0 0, .slice none 0 0, .int .u32 0, .slice none 0 0, .int .i64 0, .slice none 0 0, .int .i64 0, .string (⟨#[]⟩ : ByteArray)]) ?_ 4 _ rfl; (with_reducible repeat (first | refine blk_drewN ?_ _ | refine blk_drew ?_ | refine blk_alloc ?_ _)); refine blk_put (cs := #[.slice none 0 0, .slice none 0 0, .slice none 0 0, .slice none 0 0, .int .u32 0, .slice none 0 0, .int .i64 0, .slice none 0 0, .int .i64 0, .string (⟨#[]⟩ : ByteArray)]) ?_ 3 _ rfl; (with_reducible repeat (first | refine blk_drewN ?_ _ | refine blk_drew ?_ | refine blk_alloc ?_ _)); refine blk_put (cs := #[.slice none 0 0, .slice none 0 0, .slice none 0 0, .slice none 0 0, .int .u32 0, .slice none 0 0, .int .i64 0, .slice none 0 0, .int .i64 0, .string (⟨#[]⟩ : ByteArray)]) ?_ 2 _ rfl; (with_reducible repeat (first | refine blk_drewN ?_ _ | refine blk_drew ?_ | refine blk_alloc ?_ _)); refine blk_put (cs := #[.slice none 0 0, .slice none 0 0, .slice none 0 0, .slice none 0 0, .int .u32 0, .slice none 0 0, .int .i64 0, .slice none 0 0, .int .i64 0, .string (⟨#[]⟩ : ByteArray)]) ?_ 1 _ rfl; (with_reducible repeat (first | refine blk_drewN ?_ _ | refine blk_drew ?_ | refine blk_alloc ?_ _)); refine blk_put (cs := #[.slice none 0 0, .slice none 0 0, .slice none 0 0, .slice none 0 0, .int .u32 0, .slice none 0 0, .int .i64 0, .slice none 0 0, .int .i64 0, .string (⟨#[]⟩ : ByteArray)]) ?_ 0 _ rfl; (with_reducible repeat (first | refine blk_drewN ?_ _ | refine blk_drew ?_ | refine blk_alloc ?_ _)); exact BK31003.out) Try.underlying32 rfl (by kernel_rfl)) rfl ?_
          exact ⟨_, _, _, _, _, _, by first | rfl | (simp [errW_none, errW_some] <;> rfl) | (simp [*, errW_none, errW_some] <;> rfl), by first | exact Kd.R_nil _ _ _ _ _ | exact Kd.N_nil _ _ _ _ _ | exact Kd.V_nil _ _ _ _ _ | exact Kd.Q_nil _ _ _ _ _ | exact Kd.S_nil _ _ _ _ _, by first | exact Kd.R_nil _ _ _ _ _ | exact Kd.N_nil _ _ _ _ _ | exact Kd.V_nil _ _ _ _ _ | exact Kd.Q_nil _ _ _ _ _ | exact Kd.S_nil _ _ _ _ _, by first | exact Kd.S_nil _ _ _ _ _ | exact Kd.N_nil _ _ _ _ _ | exact Kd.V_nil _ _ _ _ _ | exact Kd.Q_nil _ _ _ _ _ | exact Kd.R_nil _ _ _ _ _, by first | exact Kd.R_nil _ _ _ _ _ | exact Kd.N_nil _ _ _ _ _ | exact Kd.V_nil _ _ _ _ _ | exact Kd.Q_nil _ _ _ _ _ | exact Kd.S_nil _ _ _ _ _, by first | exact Kd.R_nil _ _ _ _ _ | exact Kd.N_nil _ _ _ _ _ | exact Kd.V_nil _ _ _ _ _ | exact Kd.Q_nil _ _ _ _ _ | exact Kd.S_nil _ _ _ _ _, by first | exact Kd.S_nil _ _ _ _ _ | exact Kd.N_nil _ _ _ _ _ | exact Kd.V_nil _ _ _ _ _ | exact Kd.Q_nil _ _ _ _ _ | exact Kd.R_nil _ _ _ _ _, by repeat (first | (with_reducible first | exact HB.out | apply below_alloc | apply pw_below_drewN | apply below_drew1 | refine below_set ?_ GE31001.out | refine below_set ?_ GE31002.out | refine below_set ?_ GE31003.out) | exact HB.out)⟩
        · rw [if_neg c29] at H
          have c29b0 : ((l0_2.length : Int) == 640) = false := beq_eq_false_iff_ne.mpr c29
          have c29b1 : ((l0_2.length : Int) != 640) = true := bne_iff_ne.mpr c29
          replace H := Option.bind_eq_some_iff.mp H
          obtain ⟨⟨t31006, t31009, t31012, t31015, t31018, t31019, t31022, t31023, t31026, t31027⟩, A330, H⟩ := H
          replace H : ((api_Op.f l1_4).bind fun t31028 => (if t31012.length < 2199023255552 then (some (t31006, t31009, (t31012 ++ [(⟨a1_0, a1_1, a1_2, a1_3, t31028⟩ : S51)]), t31015, t31018, t31019, t31022, t31023, t31026, t31027, (l0_2.length : Int), 0)) else (none))) = some (r1, r2, r3, r4, r5, r6, r7, r8, r9, r10, r11, r12) := H
          have A33 := Aside0.mk A330
          clear A330
          replace H := Option.bind_eq_some_iff.mp H
          obtain ⟨t31028, A340, H⟩ := H
          replace H : (if t31012.length < 2199023255552 then (some (t31006, t31009, (t31012 ++ [(⟨a1_0, a1_1, a1_2, a1_3, t31028⟩ : S51)]), t31015, t31018, t31019, t31022, t31023, t31026, t31027, (l0_2.length : Int), 0)) else (none)) = some (r1, r2, r3, r4, r5, r6, r7, r8, r9, r10, r11, r12) := H
          have A34 := Aside0.mk A340
          clear A340
          by_cases c35 : t31012.length < 2199023255552
          · rw [if_pos c35] at H
            have LMc35 := Aside0.mk c35
            clear c35
            obtain ⟨y31031, hy31031⟩ : ∃ y_ : List (S51), y_ = (t31012 ++ [(⟨a1_0, a1_1, a1_2, a1_3, t31028⟩ : S51)]) := ⟨_, rfl⟩
            replace H : (some (t31006, t31009, y31031, t31015, t31018, t31019, t31022, t31023, t31026, t31027, (l0_2.length : Int), 0)) = some (r1, r2, r3, r4, r5, r6, r7, r8, r9, r10, r11, r12) := by first | (rw [hy31031]; with_reducible exact H) | (have H2_ := (Option.bind_some _ _).symm.trans H; rw [hy31031]; with_reducible exact H2_) | (have H2_ := (Option.bind_some _ _).symm.trans H; with_reducible exact H2_) | with_reducible exact H | (rw [hy31031]; exact H) | exact H
            have Ny31031 := Aside0.mk hy31031
            clear hy31031
            simp only [Option.some.injEq, Prod.mk.injEq] at H
            obtain ⟨rfl, rfl, rfl, rfl, rfl, rfl, rfl, rfl, rfl, rfl, rfl, rfl⟩ := H
            have hnb36 := NB31001_31002.out
            have hnc36 := NB31002_31001.out
            have hnb37 := NB31001_31003.out
            have hnc37 := NB31003_31001.out
            have hcz38_0 : wc.cell? ⟨gb31001, 0, none⟩ = some (.slice A0_0 l0_0.length c0_0) := (blk_cell BK31001.out 0).trans rfl
            have hcz38_1 : wc.cell? ⟨gb31001, 1, none⟩ = some (.slice A0_1 l0_1.length c0_1) := (blk_cell BK31001.out 1).trans rfl
            have hcz38_2 : wc.cell? ⟨gb31001, 2, none⟩ = some (.slice A0_2 l0_2.length c0_2) := (blk_cell BK31001.out 2).trans rfl
            have hcz38_3 : wc.cell? ⟨gb31001, 3, none⟩ = some (.slice A0_3 l0_3.length c0_3) := (blk_cell BK31001.out 3).trans rfl
            have hcz38_4 : wc.cell? ⟨gb31001, 4, none⟩ = some (.int .u32 a0_4) := (blk_cell BK31001.out 4).trans rfl
            have hcz38_5 : wc.cell? ⟨gb31001, 5, none⟩ = some (.slice A0_5 l0_5.length c0_5) := (blk_cell BK31001.out 5).trans rfl
            have hcz38_6 : wc.cell? ⟨gb31001, 6, none⟩ = some (.int .i64 a0_6) := (blk_cell BK31001.out 6).trans rfl
            have hcz38_7 : wc.cell? ⟨gb31001, 7, none⟩ = some (.slice A0_7 l0_7.length c0_7) := (blk_cell BK31001.out 7).trans rfl
            have hcz38_8 : wc.cell? ⟨gb31001, 8, none⟩ = some (.int .i64 a0_8) := (blk_cell BK31001.out 8).trans rfl
            have hcz38_9 : wc.cell? ⟨gb31001, 9, none⟩ = some (.string a0_9) := (blk_cell BK31001.out 9).trans rfl
            have hfz38_0 := blk_frozen BK31001.out 0
            have hfz38_1 := blk_frozen BK31001.out 1
            have hfz38_2 := blk_frozen BK31001.out 2
            have hfz38_3 := blk_frozen BK31001.out 3
            have hfz38_4 := blk_frozen BK31001.out 4
            have hfz38_5 := blk_frozen BK31001.out 5
            have hfz38_6 := blk_frozen BK31001.out 6
            have hfz38_7 := blk_frozen BK31001.out 7
            have hfz38_8 := blk_frozen BK31001.out 8
            have hfz38_9 := blk_frozen BK31001.out 9
            go_wp2_with (first | ((with_reducible refine gate_callee (f := 28) rfl ?_); refine goesL_ (some 30) rfl rfl Try.func28 (by kernel_rfl) rfl #[.agg #[.slice A0_0 l0_0.length c0_0, .slice A0_1 l0_1.length c0_1, .slice A0_2 l0_2.length c0_2, .slice A0_3 l0_3.length c0_3, .int .u32 a0_4, .slice A0_5 l0_5.length c0_5, .int .i64 a0_6, .slice A0_7 l0_7.length c0_7, .int .i64 a0_8, .string a0_9]] rfl (by (try simp only [List.map_toArray, List.map_cons, List.map_nil]); first | done | rfl | (simp only [List.length_drop, List.length_take]; rfl)) ?_; (with_reducible refine (dict_Copy.calls _ _ l0_0 _ _ l0_1 _ _ l0_2 _ _ l0_3 a0_4 _ _ l0_5 a0_6 _ _ l0_7 a0_8 a0_9 t31006 t31009 t31012 t31015 t31018 t31019 t31022 t31023 t31026 t31027 _ ?side1 ?side2 ?side3 ?side4 ?side5 ?side6 ?side7 ?side8 ?side9 ?side10 ?side11 ?side12 A33.out).mono ?_); (case side1 => repeat (first | exact (Kd.C_below HR0_0.out HB.out) | (with_reducible refine Kd.C_alloc ?_ _) | (with_reducible refine Kd.C_drewN ?_ _) | (with_reducible refine Kd.C_drew ?_))); (case side2 => exact HC0_0.out); (case side3 => repeat (first | exact (Kd.C_below HR0_1.out HB.out) | (with_reducible refine Kd.C_alloc ?_ _) | (with_reducible refine Kd.C_drewN ?_ _) | (with_reducible refine Kd.C_drew ?_))); (case side4 => exact HC0_1.out); (case side5 => repeat (first | exact (Kd.C_below HR0_2.out HB.out) | (with_reducible refine Kd.C_alloc ?_ _) | (with_reducible refine Kd.C_drewN ?_ _) | (with_reducible refine Kd.C_drew ?_))); (case side6 => exact HC0_2.out); (case side7 => repeat (first | exact (Kd.C_below HR0_3.out HB.out) | (with_reducible refine Kd.C_alloc ?_ _) | (with_reducible refine Kd.C_drewN ?_ _) | (with_reducible refine Kd.C_drew ?_))); (case side8 => exact HC0_3.out); (case side9 => repeat (first | exact (Kd.C_below HR0_5.out HB.out) | (with_reducible refine Kd.C_alloc ?_ _) | (with_reducible refine Kd.C_drewN ?_ _) | (with_reducible refine Kd.C_drew ?_))); (case side10 => exact HC0_5.out); (case side11 => repeat (first | exact (Kd.C_below HR0_7.out HB.out) | (with_reducible refine Kd.C_alloc ?_ _) | (with_reducible refine Kd.C_drewN ?_ _) | (with_reducible refine Kd.C_drew ?_))); (case side12 => exact HC0_7.out); rintro e w39 ⟨v31007, v31010, v31013, v31016, v31020, v31024, rfl, ho0, ho1, ho2, ho3, ho4, ho5, hb⟩; refine ⟨_, rfl, ?_⟩; have n0_ := Aside0.mk (Kd.R_lower ho0 (below_size (by repeat (first | (with_reducible first | exact HB.out | apply below_alloc | apply pw_below_drewN | apply below_drew1 | refine below_set ?_ GE31001.out | refine below_set ?_ GE31002.out | refine below_set ?_ GE31003.out) | exact HB.out)))); have n1_ := Aside0.mk (Kd.R_lower ho1 (below_size (by repeat (first | (with_reducible first | exact HB.out | apply below_alloc | apply pw_below_drewN | apply below_drew1 | refine below_set ?_ GE31001.out | refine below_set ?_ GE31002.out | refine below_set ?_ GE31003.out) | exact HB.out)))); have n2_ := Aside0.mk (Kd.S_lower (Kd.S_newB ho2 (g := gb31002) (o := .cells #[.string a1_0, .int .i64 a1_1, .int .i64 a1_2, .int .u32 a1_3, .slice A1_4 l1_4.length c1_4] 51 (0, 0)) (by (with_reducible repeat (first | refine blk_drewN ?_ _ | refine blk_drew ?_ | refine blk_alloc ?_ _)); exact BK31002.out)) (below_size (by repeat (first | (with_reducible first | exact HB.out | apply below_alloc | apply pw_below_drewN | apply below_drew1 | refine below_set ?_ GE31001.out | refine below_set ?_ GE31002.out | refine below_set ?_ GE31003.out) | exact HB.out)))); have n3_ := Aside0.mk (Kd.R_lower ho3 (below_size (by repeat (first | (with_reducible first | exact HB.out | apply below_alloc | apply pw_below_drewN | apply below_drew1 | refine below_set ?_ GE31001.out | refine below_set ?_ GE31002.out | refine below_set ?_ GE31003.out) | exact HB.out)))); have n4_ := Aside0.mk (Kd.R_lower ho4 (below_size (by repeat (first | (with_reducible first | exact HB.out | apply below_alloc | apply pw_below_drewN | apply below_drew1 | refine below_set ?_ GE31001.out | refine below_set ?_ GE31002.out | refine below_set ?_ GE31003.out) | exact HB.out)))); have n5_ := Aside0.mk (Kd.S_lower ho5 (below_size (by repeat (first | (with_reducible first | exact HB.out | apply below_alloc | apply pw_below_drewN | apply below_drew1 | refine below_set ?_ GE31001.out | refine below_set ?_ GE31002.out | refine below_set ?_ GE31003.out) | exact HB.out)))); have n6_ := Aside0.mk (blk_below (g := gb31001) (o := .cells #[.slice A0_0 l0_0.length c0_0, .slice A0_1 l0_1.length c0_1, .slice A0_2 l0_2.length c0_2, .slice A0_3 l0_3.length c0_3, .int .u32 a0_4, .slice A0_5 l0_5.length c0_5, .int .i64 a0_6, .slice A0_7 l0_7.length c0_7, .int .i64 a0_8, .string a0_9] 32 (0, 0)) (by (with_reducible repeat (first | refine blk_drewN ?_ _ | refine blk_drew ?_ | refine blk_alloc ?_ _)); exact BK31001.out) hb); have n7_ := Aside0.mk (blk_below (g := gb31002) (o := .cells #[.string a1_0, .int .i64 a1_1, .int .i64 a1_2, .int .u32 a1_3, .slice A1_4 l1_4.length c1_4] 51 (0, 0)) (by (with_reducible repeat (first | refine blk_drewN ?_ _ | refine blk_drew ?_ | refine blk_alloc ?_ _)); exact BK31002.out) hb); have n8_ := Aside0.mk (blk_below (g := gb31003) (o := .cells #[.slice none 0 0, .slice none 0 0, .slice none 0 0, .slice none 0 0, .int .u32 0, .slice none 0 0, .int .i64 0, .slice none 0 0, .int .i64 0, .string (⟨#[]⟩ : ByteArray)] 32 (0, 0)) (by (with_reducible repeat (first | refine blk_drewN ?_ _ | refine blk_drew ?_ | refine blk_alloc ?_ _)); exact BK31003.out) hb); have n9_ := Aside0.mk (below_step (by repeat (first | (with_reducible first | exact HB.out | apply below_alloc | apply pw_below_drewN | apply below_drew1 | refine below_set ?_ GE31001.out | refine below_set ?_ GE31002.out | refine below_set ?_ GE31003.out) | exact HB.out)) hb); clear BK31001; clear BK31002; clear BK31003; clear HB; have HO31008 := n0_; have HO31011 := n1_; have HO31014 := n2_; have HO31017 := n3_; have HO31021 := n4_; have HO31025 := n5_; have BK31001 := n6_; have BK31002 := n7_; have BK31003 := n8_; have HB := n9_; clear n0_ n1_ n2_ n3_ n4_ n5_ n6_ n7_ n8_ n9_; (try clear hb); (try clear hb2); (try clear hk); (try clear hi); (try clear ho0); (try clear ho1); (try clear ho2); (try clear ho3); (try clear ho4); (try clear ho5); obtain ⟨Ao40, co40, eo40⟩ := Kd.R_slice HO31008.out; subst eo40; have hcz41_0 : w39.cell? ⟨gb31001, 0, none⟩ = some (.slice A0_0 l0_0.length c0_0) := (blk_cell BK31001.out 0).trans rfl; have hcz41_1 : w39.cell? ⟨gb31001, 1, none⟩ = some (.slice A0_1 l0_1.length c0_1) := (blk_cell BK31001.out 1).trans rfl; have hcz41_2 : w39.cell? ⟨gb31001, 2, none⟩ = some (.slice A0_2 l0_2.length c0_2) := (blk_cell BK31001.out 2).trans rfl; have hcz41_3 : w39.cell? ⟨gb31001, 3, none⟩ = some (.slice A0_3 l0_3.length c0_3) := (blk_cell BK31001.out 3).trans rfl; have hcz41_4 : w39.cell? ⟨gb31001, 4, none⟩ = some (.int .u32 a0_4) := (blk_cell BK31001.out 4).trans rfl; have hcz41_5 : w39.cell? ⟨gb31001, 5, none⟩ = some (.slice A0_5 l0_5.length c0_5) := (blk_cell BK31001.out 5).trans rfl; have hcz41_6 : w39.cell? ⟨gb31001, 6, none⟩ = some (.int .i64 a0_6) := (blk_cell BK31001.out 6).trans rfl; have hcz41_7 : w39.cell? ⟨gb31001, 7, none⟩ = some (.slice A0_7 l0_7.length c0_7) := (blk_cell BK31001.out 7).trans rfl; have hcz41_8 : w39.cell? ⟨gb31001, 8, none⟩ = some (.int .i64 a0_8) := (blk_cell BK31001.out 8).trans rfl; have hcz41_9 : w39.cell? ⟨gb31001, 9, none⟩ = some (.string a0_9) := (blk_cell BK31001.out 9).trans rfl; have hfz41_0 := blk_frozen BK31001.out 0; have hfz41_1 := blk_frozen BK31001.out 1; have hfz41_2 := blk_frozen BK31001.out 2; have hfz41_3 := blk_frozen BK31001.out 3; have hfz41_4 := blk_frozen BK31001.out 4; have hfz41_5 := blk_frozen BK31001.out 5; have hfz41_6 := blk_frozen BK31001.out 6; have hfz41_7 := blk_frozen BK31001.out 7; have hfz41_8 := blk_frozen BK31001.out 8; have hfz41_9 := blk_frozen BK31001.out 9; obtain ⟨Ao42, co42, eo42⟩ := Kd.R_slice HO31011.out; subst eo42; obtain ⟨Ao43, co43, eo43⟩ := Kd.S_slice HO31014.out; subst eo43; obtain ⟨Ao44, co44, eo44⟩ := Kd.R_slice HO31017.out; subst eo44; obtain ⟨Ao45, co45, eo45⟩ := Kd.R_slice HO31021.out; subst eo45; obtain ⟨Ao46, co46, eo46⟩ := Kd.S_slice HO31025.out; subst eo46; have hnb47 := NB31002_31003.out; have hnc47 := NB31003_31002.out; have hcz48_0 : w39.cell? ⟨gb31002, 0, none⟩ = some (.string a1_0) := (blk_cell BK31002.out 0).trans rfl; have hcz48_1 : w39.cell? ⟨gb31002, 1, none⟩ = some (.int .i64 a1_1) := (blk_cell BK31002.out 1).trans rfl; have hcz48_2 : w39.cell? ⟨gb31002, 2, none⟩ = some (.int .i64 a1_2) := (blk_cell BK31002.out 2).trans rfl; have hcz48_3 : w39.cell? ⟨gb31002, 3, none⟩ = some (.int .u32 a1_3) := (blk_cell BK31002.out 3).trans rfl; have hcz48_4 : w39.cell? ⟨gb31002, 4, none⟩ = some (.slice A1_4 l1_4.length c1_4) := (blk_cell BK31002.out 4).trans rfl; have hfz48_0 := blk_frozen BK31002.out 0; have hfz48_1 := blk_frozen BK31002.out 1; have hfz48_2 := blk_frozen BK31002.out 2; have hfz48_3 := blk_frozen BK31002.out 3; have hfz48_4 := blk_frozen BK31002.out 4) | ((with_reducible refine gate_callee (f := 60) rfl ?_); refine goesL_ (some 33) rfl rfl Try.func60 (by kernel_rfl) rfl #[.slice A1_4 l1_4.length c1_4] rfl (by (try simp only [List.map_toArray, List.map_cons, List.map_nil]); first | done | rfl | (simp only [List.length_drop, List.length_take]; rfl)) ?_; (with_reducible refine (api_Op.calls _ _ l1_4 t31028 _ ?side1 ?side2 A34.out).mono ?_); (case side1 => exact Kd.C_below HR1_4.out (by repeat (first | (with_reducible first | exact HB.out | apply below_alloc | apply pw_below_drewN | apply below_drew1 | refine below_set ?_ GE31001.out | refine below_set ?_ GE31002.out | refine below_set ?_ GE31003.out) | exact HB.out))); (case side2 => exact HC1_4.out); rintro e w49 ⟨v31029, rfl, ho0, hb⟩; refine ⟨_, rfl, ?_⟩; have n0_ := Aside0.mk (Kd.R_below (by (with_reducible repeat (first | apply Kd.R_alloc | apply Kd.R_drewN | apply Kd.R_drew)); exact (Kd.R_mono (Kd.R_far (p := ⟨gb31001, 9, none⟩) (Kd.R_far (p := ⟨gb31001, 8, none⟩) (Kd.R_far (p := ⟨gb31001, 7, none⟩) (Kd.R_far (p := ⟨gb31001, 6, none⟩) (Kd.R_far (p := ⟨gb31001, 5, none⟩) (Kd.R_far (p := ⟨gb31001, 4, none⟩) (Kd.R_far (p := ⟨gb31001, 3, none⟩) (Kd.R_far (p := ⟨gb31001, 2, none⟩) (Kd.R_far (p := ⟨gb31001, 1, none⟩) (Kd.R_far (p := ⟨gb31001, 0, none⟩) (Kd.R_types HO31008.out BK31001.out (by decide)) (fun _ hk => hk.2) (.slice Ao40 t31006.length co40)) (fun _ hk => hk.2) (.slice Ao42 t31009.length co42)) (fun _ hk => hk.2) (.slice Ao43 t31012.length co43)) (fun _ hk => hk.2) (.slice Ao44 t31015.length co44)) (fun _ hk => hk.2) (.int .u32 t31018)) (fun _ hk => hk.2) (.slice Ao45 t31019.length co45)) (fun _ hk => hk.2) (.int .i64 t31022)) (fun _ hk => hk.2) (.slice Ao46 t31023.length co46)) (fun _ hk => hk.2) (.int .i64 t31026)) (fun _ hk => hk.2) (.string t31027)) (fun _ h_ => h_.1))) hb); have n1_ := Aside0.mk (Kd.R_below (by (with_reducible repeat (first | apply Kd.R_alloc | apply Kd.R_drewN | apply Kd.R_drew)); exact (Kd.R_mono (Kd.R_far (p := ⟨gb31001, 9, none⟩) (Kd.R_far (p := ⟨gb31001, 8, none⟩) (Kd.R_far (p := ⟨gb31001, 7, none⟩) (Kd.R_far (p := ⟨gb31001, 6, none⟩) (Kd.R_far (p := ⟨gb31001, 5, none⟩) (Kd.R_far (p := ⟨gb31001, 4, none⟩) (Kd.R_far (p := ⟨gb31001, 3, none⟩) (Kd.R_far (p := ⟨gb31001, 2, none⟩) (Kd.R_far (p := ⟨gb31001, 1, none⟩) (Kd.R_far (p := ⟨gb31001, 0, none⟩) (Kd.R_types HO31011.out BK31001.out (by decide)) (fun _ hk => hk.2) (.slice Ao40 t31006.length co40)) (fun _ hk => hk.2) (.slice Ao42 t31009.length co42)) (fun _ hk => hk.2) (.slice Ao43 t31012.length co43)) (fun _ hk => hk.2) (.slice Ao44 t31015.length co44)) (fun _ hk => hk.2) (.int .u32 t31018)) (fun _ hk => hk.2) (.slice Ao45 t31019.length co45)) (fun _ hk => hk.2) (.int .i64 t31022)) (fun _ hk => hk.2) (.slice Ao46 t31023.length co46)) (fun _ hk => hk.2) (.int .i64 t31026)) (fun _ hk => hk.2) (.string t31027)) (fun _ h_ => h_.1))) hb); have n2_ := Aside0.mk (Kd.S_elder' (by (with_reducible repeat (first | apply Kd.S_alloc | apply Kd.S_drewN | apply Kd.S_drew)); exact (Kd.S_mono (Kd.S_far (p := ⟨gb31001, 9, none⟩) (Kd.S_far (p := ⟨gb31001, 8, none⟩) (Kd.S_far (p := ⟨gb31001, 7, none⟩) (Kd.S_far (p := ⟨gb31001, 6, none⟩) (Kd.S_far (p := ⟨gb31001, 5, none⟩) (Kd.S_far (p := ⟨gb31001, 4, none⟩) (Kd.S_far (p := ⟨gb31001, 3, none⟩) (Kd.S_far (p := ⟨gb31001, 2, none⟩) (Kd.S_far (p := ⟨gb31001, 1, none⟩) (Kd.S_far (p := ⟨gb31001, 0, none⟩) (Kd.S_types HO31014.out BK31001.out (by decide)) (fun _ hk => hk.2) (.slice Ao40 t31006.length co40)) (fun _ hk => hk.2) (.slice Ao42 t31009.length co42)) (fun _ hk => hk.2) (.slice Ao43 t31012.length co43)) (fun _ hk => hk.2) (.slice Ao44 t31015.length co44)) (fun _ hk => hk.2) (.int .u32 t31018)) (fun _ hk => hk.2) (.slice Ao45 t31019.length co45)) (fun _ hk => hk.2) (.int .i64 t31022)) (fun _ hk => hk.2) (.slice Ao46 t31023.length co46)) (fun _ hk => hk.2) (.int .i64 t31026)) (fun _ hk => hk.2) (.string t31027)) (fun _ h_ => h_.1))) (Kd.R_base ho0) hb); have n3_ := Aside0.mk (Kd.R_below (by (with_reducible repeat (first | apply Kd.R_alloc | apply Kd.R_drewN | apply Kd.R_drew)); exact (Kd.R_mono (Kd.R_far (p := ⟨gb31001, 9, none⟩) (Kd.R_far (p := ⟨gb31001, 8, none⟩) (Kd.R_far (p := ⟨gb31001, 7, none⟩) (Kd.R_far (p := ⟨gb31001, 6, none⟩) (Kd.R_far (p := ⟨gb31001, 5, none⟩) (Kd.R_far (p := ⟨gb31001, 4, none⟩) (Kd.R_far (p := ⟨gb31001, 3, none⟩) (Kd.R_far (p := ⟨gb31001, 2, none⟩) (Kd.R_far (p := ⟨gb31001, 1, none⟩) (Kd.R_far (p := ⟨gb31001, 0, none⟩) (Kd.R_types HO31017.out BK31001.out (by decide)) (fun _ hk => hk.2) (.slice Ao40 t31006.length co40)) (fun _ hk => hk.2) (.slice Ao42 t31009.length co42)) (fun _ hk => hk.2) (.slice Ao43 t31012.length co43)) (fun _ hk => hk.2) (.slice Ao44 t31015.length co44)) (fun _ hk => hk.2) (.int .u32 t31018)) (fun _ hk => hk.2) (.slice Ao45 t31019.length co45)) (fun _ hk => hk.2) (.int .i64 t31022)) (fun _ hk => hk.2) (.slice Ao46 t31023.length co46)) (fun _ hk => hk.2) (.int .i64 t31026)) (fun _ hk => hk.2) (.string t31027)) (fun _ h_ => h_.1))) hb); have n4_ := Aside0.mk (Kd.R_below (by (with_reducible repeat (first | apply Kd.R_alloc | apply Kd.R_drewN | apply Kd.R_drew)); exact (Kd.R_mono (Kd.R_far (p := ⟨gb31001, 9, none⟩) (Kd.R_far (p := ⟨gb31001, 8, none⟩) (Kd.R_far (p := ⟨gb31001, 7, none⟩) (Kd.R_far (p := ⟨gb31001, 6, none⟩) (Kd.R_far (p := ⟨gb31001, 5, none⟩) (Kd.R_far (p := ⟨gb31001, 4, none⟩) (Kd.R_far (p := ⟨gb31001, 3, none⟩) (Kd.R_far (p := ⟨gb31001, 2, none⟩) (Kd.R_far (p := ⟨gb31001, 1, none⟩) (Kd.R_far (p := ⟨gb31001, 0, none⟩) (Kd.R_types HO31021.out BK31001.out (by decide)) (fun _ hk => hk.2) (.slice Ao40 t31006.length co40)) (fun _ hk => hk.2) (.slice Ao42 t31009.length co42)) (fun _ hk => hk.2) (.slice Ao43 t31012.length co43)) (fun _ hk => hk.2) (.slice Ao44 t31015.length co44)) (fun _ hk => hk.2) (.int .u32 t31018)) (fun _ hk => hk.2) (.slice Ao45 t31019.length co45)) (fun _ hk => hk.2) (.int .i64 t31022)) (fun _ hk => hk.2) (.slice Ao46 t31023.length co46)) (fun _ hk => hk.2) (.int .i64 t31026)) (fun _ hk => hk.2) (.string t31027)) (fun _ h_ => h_.1))) hb); have n5_ := Aside0.mk (Kd.S_below (by (with_reducible repeat (first | apply Kd.S_alloc | apply Kd.S_drewN | apply Kd.S_drew)); exact (Kd.S_mono (Kd.S_far (p := ⟨gb31001, 9, none⟩) (Kd.S_far (p := ⟨gb31001, 8, none⟩) (Kd.S_far (p := ⟨gb31001, 7, none⟩) (Kd.S_far (p := ⟨gb31001, 6, none⟩) (Kd.S_far (p := ⟨gb31001, 5, none⟩) (Kd.S_far (p := ⟨gb31001, 4, none⟩) (Kd.S_far (p := ⟨gb31001, 3, none⟩) (Kd.S_far (p := ⟨gb31001, 2, none⟩) (Kd.S_far (p := ⟨gb31001, 1, none⟩) (Kd.S_far (p := ⟨gb31001, 0, none⟩) (Kd.S_types HO31025.out BK31001.out (by decide)) (fun _ hk => hk.2) (.slice Ao40 t31006.length co40)) (fun _ hk => hk.2) (.slice Ao42 t31009.length co42)) (fun _ hk => hk.2) (.slice Ao43 t31012.length co43)) (fun _ hk => hk.2) (.slice Ao44 t31015.length co44)) (fun _ hk => hk.2) (.int .u32 t31018)) (fun _ hk => hk.2) (.slice Ao45 t31019.length co45)) (fun _ hk => hk.2) (.int .i64 t31022)) (fun _ hk => hk.2) (.slice Ao46 t31023.length co46)) (fun _ hk => hk.2) (.int .i64 t31026)) (fun _ hk => hk.2) (.string t31027)) (fun _ h_ => h_.1))) hb); have n6_ := Aside0.mk (Kd.R_lower ho0 (below_size (by repeat (first | (with_reducible first | exact HB.out | apply below_alloc | apply pw_below_drewN | apply below_drew1 | refine below_set ?_ GE31001.out | refine below_set ?_ GE31002.out | refine below_set ?_ GE31003.out) | exact HB.out)))); have n7_ := Aside0.mk (blk_below (g := gb31001) (o := .cells #[.slice Ao40 t31006.length co40, .slice Ao42 t31009.length co42, .slice Ao43 t31012.length co43, .slice Ao44 t31015.length co44, .int .u32 t31018, .slice Ao45 t31019.length co45, .int .i64 t31022, .slice Ao46 t31023.length co46, .int .i64 t31026, .string t31027] 32 (0, 0)) (by (with_reducible repeat (first | refine blk_drewN ?_ _ | refine blk_drew ?_ | refine blk_alloc ?_ _)); refine blk_put (cs := #[.slice Ao40 t31006.length co40, .slice Ao42 t31009.length co42, .slice Ao43 t31012.length co43, .slice Ao44 t31015.length co44, .int .u32 t31018, .slice Ao45 t31019.length co45, .int .i64 t31022, .slice Ao46 t31023.length co46, .int .i64 t31026, .string a0_9]) ?_ 9 _ rfl; (with_reducible repeat (first | refine blk_drewN ?_ _ | refine blk_drew ?_ | refine blk_alloc ?_ _)); refine blk_put (cs := #[.slice Ao40 t31006.length co40, .slice Ao42 t31009.length co42, .slice Ao43 t31012.length co43, .slice Ao44 t31015.length co44, .int .u32 t31018, .slice Ao45 t31019.length co45, .int .i64 t31022, .slice Ao46 t31023.length co46, .int .i64 a0_8, .string a0_9]) ?_ 8 _ rfl; (with_reducible repeat (first | refine blk_drewN ?_ _ | refine blk_drew ?_ | refine blk_alloc ?_ _)); refine blk_put (cs := #[.slice Ao40 t31006.length co40, .slice Ao42 t31009.length co42, .slice Ao43 t31012.length co43, .slice Ao44 t31015.length co44, .int .u32 t31018, .slice Ao45 t31019.length co45, .int .i64 t31022, .slice A0_7 l0_7.length c0_7, .int .i64 a0_8, .string a0_9]) ?_ 7 _ rfl; (with_reducible repeat (first | refine blk_drewN ?_ _ | refine blk_drew ?_ | refine blk_alloc ?_ _)); refine blk_put (cs := #[.slice Ao40 t31006.length co40, .slice Ao42 t31009.length co42, .slice Ao43 t31012.length co43, .slice Ao44 t31015.length co44, .int .u32 t31018, .slice Ao45 t31019.length co45, .int .i64 a0_6, .slice A0_7 l0_7.length c0_7, .int .i64 a0_8, .string a0_9]) ?_ 6 _ rfl; (with_reducible repeat (first | refine blk_drewN ?_ _ | refine blk_drew ?_ | refine blk_alloc ?_ _)); refine blk_put (cs := #[.slice Ao40 t31006.length co40, .slice Ao42 t31009.length co42, .slice Ao43 t31012.length co43, .slice Ao44 t31015.length co44, .int .u32 t31018, .slice A0_5 l0_5.length c0_5, .int .i64 a0_6, .slice A0_7 l0_7.length c0_7, .int .i64 a0_8, .string a0_9]) ?_ 5 _ rfl; (with_reducible repeat (first | refine blk_drewN ?_ _ | refine blk_drew ?_ | refine blk_alloc ?_ _)); refine blk_put (cs := #[.slice Ao40 t31006.length co40, .slice Ao42 t31009.length co42, .slice Ao43 t31012.length co43, .slice Ao44 t31015.length co44, .int .u32 a0_4, .slice A0_5 l0_5.length c0_5, .int .i64 a0_6, .slice A0_7 l0_7.length c0_7, .int .i64 a0_8, .string a0_9]) ?_ 4 _ rfl; (with_reducible repeat (first | refine blk_drewN ?_ _ | refine blk_drew ?_ | refine blk_alloc ?_ _)); refine blk_put (cs := #[.slice Ao40 t31006.length co40, .slice Ao42 t31009.length co42, .slice Ao43 t31012.length co43, .slice A0_3 l0_3.length c0_3, .int .u32 a0_4, .slice A0_5 l0_5.length c0_5, .int .i64 a0_6, .slice A0_7 l0_7.length c0_7, .int .i64 a0_8, .string a0_9]) ?_ 3 _ rfl; (with_reducible repeat (first | refine blk_drewN ?_ _ | refine blk_drew ?_ | refine blk_alloc ?_ _)); refine blk_put (cs := #[.slice Ao40 t31006.length co40, .slice Ao42 t31009.length co42, .slice A0_2 l0_2.length c0_2, .slice A0_3 l0_3.length c0_3, .int .u32 a0_4, .slice A0_5 l0_5.length c0_5, .int .i64 a0_6, .slice A0_7 l0_7.length c0_7, .int .i64 a0_8, .string a0_9]) ?_ 2 _ rfl; (with_reducible repeat (first | refine blk_drewN ?_ _ | refine blk_drew ?_ | refine blk_alloc ?_ _)); refine blk_put (cs := #[.slice Ao40 t31006.length co40, .slice A0_1 l0_1.length c0_1, .slice A0_2 l0_2.length c0_2, .slice A0_3 l0_3.length c0_3, .int .u32 a0_4, .slice A0_5 l0_5.length c0_5, .int .i64 a0_6, .slice A0_7 l0_7.length c0_7, .int .i64 a0_8, .string a0_9]) ?_ 1 _ rfl; (with_reducible repeat (first | refine blk_drewN ?_ _ | refine blk_drew ?_ | refine blk_alloc ?_ _)); refine blk_put (cs := #[.slice A0_0 l0_0.length c0_0, .slice A0_1 l0_1.length c0_1, .slice A0_2 l0_2.length c0_2, .slice A0_3 l0_3.length c0_3, .int .u32 a0_4, .slice A0_5 l0_5.length c0_5, .int .i64 a0_6, .slice A0_7 l0_7.length c0_7, .int .i64 a0_8, .string a0_9]) ?_ 0 _ rfl; (with_reducible repeat (first | refine blk_drewN ?_ _ | refine blk_drew ?_ | refine blk_alloc ?_ _)); exact BK31001.out) hb); have n8_ := Aside0.mk (blk_below (g := gb31002) (o := .cells #[.string a1_0, .int .i64 a1_1, .int .i64 a1_2, .int .u32 a1_3, .slice A1_4 l1_4.length c1_4] 51 (0, 0)) (by (with_reducible repeat (first | refine blk_drewN ?_ _ | refine blk_drew ?_ | refine blk_alloc ?_ _)); refine blk_far ?_ NB31002_31001.out _; (with_reducible repeat (first | refine blk_drewN ?_ _ | refine blk_drew ?_ | refine blk_alloc ?_ _)); refine blk_far ?_ NB31002_31001.out _; (with_reducible repeat (first | refine blk_drewN ?_ _ | refine blk_drew ?_ | refine blk_alloc ?_ _)); refine blk_far ?_ NB31002_31001.out _; (with_reducible repeat (first | refine blk_drewN ?_ _ | refine blk_drew ?_ | refine blk_alloc ?_ _)); refine blk_far ?_ NB31002_31001.out _; (with_reducible repeat (first | refine blk_drewN ?_ _ | refine blk_drew ?_ | refine blk_alloc ?_ _)); refine blk_far ?_ NB31002_31001.out _; (with_reducible repeat (first | refine blk_drewN ?_ _ | refine blk_drew ?_ | refine blk_alloc ?_ _)); refine blk_far ?_ NB31002_31001.out _; (with_reducible repeat (first | refine blk_drewN ?_ _ | refine blk_drew ?_ | refine blk_alloc ?_ _)); refine blk_far ?_ NB31002_31001.out _; (with_reducible repeat (first | refine blk_drewN ?_ _ | refine blk_drew ?_ | refine blk_alloc ?_ _)); refine blk_far ?_ NB31002_31001.out _; (with_reducible repeat (first | refine blk_drewN ?_ _ | refine blk_drew ?_ | refine blk_alloc ?_ _)); refine blk_far ?_ NB31002_31001.out _; (with_reducible repeat (first | refine blk_drewN ?_ _ | refine blk_drew ?_ | refine blk_alloc ?_ _)); refine blk_far ?_ NB31002_31001.out _; (with_reducible repeat (first | refine blk_drewN ?_ _ | refine blk_drew ?_ | refine blk_alloc ?_ _)); exact BK31002.out) hb); have n9_ := Aside0.mk (blk_below (g := gb31003) (o := .cells #[.slice none 0 0, .slice none 0 0, .slice none 0 0, .slice none 0 0, .int .u32 0, .slice none 0 0, .int .i64 0, .slice none 0 0, .int .i64 0, .string (⟨#[]⟩ : ByteArray)] 32 (0, 0)) (by (with_reducible repeat (first | refine blk_drewN ?_ _ | refine blk_drew ?_ | refine blk_alloc ?_ _)); refine blk_far ?_ NB31003_31001.out _; (with_reducible repeat (first | refine blk_drewN ?_ _ | refine blk_drew ?_ | refine blk_alloc ?_ _)); refine blk_far ?_ NB31003_31001.out _; (with_reducible repeat (first | refine blk_drewN ?_ _ | refine blk_drew ?_ | refine blk_alloc ?_ _)); refine blk_far ?_ NB31003_31001.out _; (with_reducible repeat (first | refine blk_drewN ?_ _ | refine blk_drew ?_ | refine blk_alloc ?_ _)); refine blk_far ?_ NB31003_31001.out _; (with_reducible repeat (first | refine blk_drewN ?_ _ | refine blk_drew ?_ | refine blk_alloc ?_ _)); refine blk_far ?_ NB31003_31001.out _; (with_reducible repeat (first | refine blk_drewN ?_ _ | refine blk_drew ?_ | refine blk_alloc ?_ _)); refine blk_far ?_ NB31003_31001.out _; (with_reducible repeat (first | refine blk_drewN ?_ _ | refine blk_drew ?_ | refine blk_alloc ?_ _)); refine blk_far ?_ NB31003_31001.out _; (with_reducible repeat (first | refine blk_drewN ?_ _ | refine blk_drew ?_ | refine blk_alloc ?_ _)); refine blk_far ?_ NB31003_31001.out _; (with_reducible repeat (first | refine blk_drewN ?_ _ | refine blk_drew ?_ | refine blk_alloc ?_ _)); refine blk_far ?_ NB31003_31001.out _; (with_reducible repeat (first | refine blk_drewN ?_ _ | refine blk_drew ?_ | refine blk_alloc ?_ _)); refine blk_far ?_ NB31003_31001.out _; (with_reducible repeat (first | refine blk_drewN ?_ _ | refine blk_drew ?_ | refine blk_alloc ?_ _)); exact BK31003.out) hb); have n10_ := Aside0.mk (below_step (by repeat (first | (with_reducible first | exact HB.out | apply below_alloc | apply pw_below_drewN | apply below_drew1 | refine below_set ?_ GE31001.out | refine below_set ?_ GE31002.out | refine below_set ?_ GE31003.out) | exact HB.out)) hb); clear HO31008; clear HO31011; clear HO31014; clear HO31017; clear HO31021; clear HO31025; clear BK31001; clear BK31002; clear BK31003; clear HB; have HO31008 := n0_; have HO31011 := n1_; have HO31014 := n2_; have HO31017 := n3_; have HO31021 := n4_; have HO31025 := n5_; have HO31030 := n6_; have BK31001 := n7_; have BK31002 := n8_; have BK31003 := n9_; have HB := n10_; clear n0_ n1_ n2_ n3_ n4_ n5_ n6_ n7_ n8_ n9_ n10_; (try clear hb); (try clear hb2); (try clear hk); (try clear hi); (try clear ho0); obtain ⟨Ao50, co50, eo50⟩ := Kd.R_slice HO31030.out; subst eo50; have hcz51_0 : w49.cell? ⟨gb31002, 0, none⟩ = some (.string a1_0) := (blk_cell BK31002.out 0).trans rfl; have hcz51_1 : w49.cell? ⟨gb31002, 1, none⟩ = some (.int .i64 a1_1) := (blk_cell BK31002.out 1).trans rfl; have hcz51_2 : w49.cell? ⟨gb31002, 2, none⟩ = some (.int .i64 a1_2) := (blk_cell BK31002.out 2).trans rfl; have hcz51_3 : w49.cell? ⟨gb31002, 3, none⟩ = some (.int .u32 a1_3) := (blk_cell BK31002.out 3).trans rfl; have hcz51_4 : w49.cell? ⟨gb31002, 4, none⟩ = some (.slice A1_4 l1_4.length c1_4) := (blk_cell BK31002.out 4).trans rfl; have hfz51_0 := blk_frozen BK31002.out 0; have hfz51_1 := blk_frozen BK31002.out 1; have hfz51_2 := blk_frozen BK31002.out 2; have hfz51_3 := blk_frozen BK31002.out 3; have hfz51_4 := blk_frozen BK31002.out 4) | ((with_reducible refine gate_store (t := 43) (p := 34) rfl ?_); refine store_event (t := 43) (p := 34) (v := ?vo_w52) (w1 := (w49.setCell ⟨gb31002, 4, none⟩ (.slice Ao50 t31028.length co50))) ?hg ?ho ?hn ?hr ?_; (case ho => rfl); (case hg => rfl); (case hn => rfl); (case hr => first | (go_simp; done) | (go_simp; rfl)); intro w52 hw; have n0_ : Aside0 (Kd.R (Kd.int .u32) 28 w52 w.heap.size (fun _ => True) (.slice Ao40 t31006.length co40) t31006) := ⟨(by rw [hw]; exact (by (with_reducible repeat (first | apply Kd.R_alloc | apply Kd.R_drewN | apply Kd.R_drew)); exact Kd.R_mono (Kd.R_far (p := ⟨gb31002, 4, none⟩) (Kd.R_types HO31008.out BK31002.out (by decide)) (fun _ hk => hk.2) (.slice Ao50 t31028.length co50)) (fun _ hk => trivial)))⟩; have n1_ : Aside0 (Kd.R (Kd.int .u8) 5 w52 w.heap.size (fun _ => True) (.slice Ao42 t31009.length co42) t31009) := ⟨(by rw [hw]; exact (by (with_reducible repeat (first | apply Kd.R_alloc | apply Kd.R_drewN | apply Kd.R_drew)); exact Kd.R_mono (Kd.R_far (p := ⟨gb31002, 4, none⟩) (Kd.R_types HO31011.out BK31002.out (by decide)) (fun _ hk => hk.2) (.slice Ao50 t31028.length co50)) (fun _ hk => trivial)))⟩; have n2_ : Aside0 (Kd.S k51 51 w52 w.heap.size (fun k_ => some k_ ≠ (.slice Ao50 t31028.length co50 : Value).ownBlock ∧ k_ ≠ gb31002) (.slice Ao43 t31012.length co43) t31012) := ⟨(by rw [hw]; exact (by (with_reducible repeat (first | apply Kd.S_alloc | apply Kd.S_drewN | apply Kd.S_drew)); exact Kd.S_mono (Kd.S_far (p := ⟨gb31002, 4, none⟩) (Kd.S_mono HO31014.out (fun k_ hk => (⟨hk, hk.1.2⟩ : _ ∧ k_ ≠ gb31002))) (fun _ hk => hk.2) (.slice Ao50 t31028.length co50)) (fun _ hk => ⟨hk.1.2, hk.1.1.2⟩)))⟩; have n3_ : Aside0 (Kd.R (Kd.int .i64) 3 w52 w.heap.size (fun _ => True) (.slice Ao44 t31015.length co44) t31015) := ⟨(by rw [hw]; exact (by (with_reducible repeat (first | apply Kd.R_alloc | apply Kd.R_drewN | apply Kd.R_drew)); exact Kd.R_mono (Kd.R_far (p := ⟨gb31002, 4, none⟩) (Kd.R_types HO31017.out BK31002.out (by decide)) (fun _ hk => hk.2) (.slice Ao50 t31028.length co50)) (fun _ hk => trivial)))⟩; have n4_ : Aside0 (Kd.R k91 91 w52 w.heap.size (fun k_ => some k_ ≠ (.slice Ao40 t31006.length co40 : Value).ownBlock ∧ some k_ ≠ (.slice Ao42 t31009.length co42 : Value).ownBlock) (.slice Ao45 t31019.length co45) t31019) := ⟨(by rw [hw]; exact (by (with_reducible repeat (first | apply Kd.R_alloc | apply Kd.R_drewN | apply Kd.R_drew)); exact Kd.R_mono (Kd.R_far (p := ⟨gb31002, 4, none⟩) (Kd.R_types HO31021.out BK31002.out (by decide)) (fun _ hk => hk.2) (.slice Ao50 t31028.length co50)) (fun _ hk => ⟨hk.1.1, hk.1.2⟩)))⟩; have n5_ : Aside0 (Kd.S k82 82 w52 w.heap.size (fun k_ => some k_ ≠ (.slice Ao40 t31006.length co40 : Value).ownBlock) (.slice Ao46 t31023.length co46) t31023) := ⟨(by rw [hw]; exact (by (with_reducible repeat (first | apply Kd.S_alloc | apply Kd.S_drewN | apply Kd.S_drew)); exact Kd.S_mono (Kd.S_far (p := ⟨gb31002, 4, none⟩) (Kd.S_types HO31025.out BK31002.out (by decide)) (fun _ hk => hk.2) (.slice Ao50 t31028.length co50)) (fun _ hk => hk.1)))⟩; have n6_ : Aside0 (Kd.R k69 69 w52 w.heap.size (fun _ => True) (.slice Ao50 t31028.length co50) t31028) := ⟨(by rw [hw]; exact (by (with_reducible repeat (first | apply Kd.R_alloc | apply Kd.R_drewN | apply Kd.R_drew)); exact Kd.R_mono (Kd.R_far (p := ⟨gb31002, 4, none⟩) (Kd.R_types HO31030.out BK31002.out (by decide)) (fun _ hk => hk.2) (.slice Ao50 t31028.length co50)) (fun _ hk => trivial)))⟩; have n7_ : Aside0 (w52.heap[gb31001]? = some (.cells #[.slice Ao40 t31006.length co40, .slice Ao42 t31009.length co42, .slice Ao43 t31012.length co43, .slice Ao44 t31015.length co44, .int .u32 t31018, .slice Ao45 t31019.length co45, .int .i64 t31022, .slice Ao46 t31023.length co46, .int .i64 t31026, .string t31027] 32 (0, 0))) := ⟨(by rw [hw]; exact (by (with_reducible repeat (first | refine blk_drewN ?_ _ | refine blk_drew ?_ | refine blk_alloc ?_ _)); refine blk_far ?_ NB31001_31002.out _; (with_reducible repeat (first | refine blk_drewN ?_ _ | refine blk_drew ?_ | refine blk_alloc ?_ _)); exact BK31001.out))⟩; have n8_ : Aside0 (w52.heap[gb31002]? = some (.cells #[.string a1_0, .int .i64 a1_1, .int .i64 a1_2, .int .u32 a1_3, .slice Ao50 t31028.length co50] 51 (0, 0))) := ⟨(by rw [hw]; exact (by (with_reducible repeat (first | refine blk_drewN ?_ _ | refine blk_drew ?_ | refine blk_alloc ?_ _)); refine blk_put (cs := #[.string a1_0, .int .i64 a1_1, .int .i64 a1_2, .int .u32 a1_3, .slice A1_4 l1_4.length c1_4]) ?_ 4 _ rfl; (with_reducible repeat (first | refine blk_drewN ?_ _ | refine blk_drew ?_ | refine blk_alloc ?_ _)); exact BK31002.out))⟩; have n9_ : Aside0 (w52.heap[gb31003]? = some (.cells #[.slice none 0 0, .slice none 0 0, .slice none 0 0, .slice none 0 0, .int .u32 0, .slice none 0 0, .int .i64 0, .slice none 0 0, .int .i64 0, .string (⟨#[]⟩ : ByteArray)] 32 (0, 0))) := ⟨(by rw [hw]; exact (by (with_reducible repeat (first | refine blk_drewN ?_ _ | refine blk_drew ?_ | refine blk_alloc ?_ _)); refine blk_far ?_ NB31003_31002.out _; (with_reducible repeat (first | refine blk_drewN ?_ _ | refine blk_drew ?_ | refine blk_alloc ?_ _)); exact BK31003.out))⟩; have n10_ : Aside0 (Below w.heap.size w w52) := ⟨(by rw [hw]; exact (by repeat (first | (with_reducible first | exact HB.out | apply below_alloc | apply pw_below_drewN | apply below_drew1 | refine below_set ?_ GE31001.out | refine below_set ?_ GE31002.out | refine below_set ?_ GE31003.out) | exact HB.out)))⟩; clear hw; clear HO31008; clear HO31011; clear HO31014; clear HO31017; clear HO31021; clear HO31025; clear HO31030; clear BK31001; clear BK31002; clear BK31003; clear HB; have HO31008 := n0_; have HO31011 := n1_; have HO31014 := n2_; have HO31017 := n3_; have HO31021 := n4_; have HO31025 := n5_; have HO31030 := n6_; have BK31001 := n7_; have BK31002 := n8_; have BK31003 := n9_; have HB := n10_; clear n0_ n1_ n2_ n3_ n4_ n5_ n6_ n7_ n8_ n9_ n10_; have hcz53_0 : w52.cell? ⟨gb31001, 0, none⟩ = some (.slice Ao40 t31006.length co40) := (blk_cell BK31001.out 0).trans rfl; have hcz53_1 : w52.cell? ⟨gb31001, 1, none⟩ = some (.slice Ao42 t31009.length co42) := (blk_cell BK31001.out 1).trans rfl; have hcz53_2 : w52.cell? ⟨gb31001, 2, none⟩ = some (.slice Ao43 t31012.length co43) := (blk_cell BK31001.out 2).trans rfl; have hcz53_3 : w52.cell? ⟨gb31001, 3, none⟩ = some (.slice Ao44 t31015.length co44) := (blk_cell BK31001.out 3).trans rfl; have hcz53_4 : w52.cell? ⟨gb31001, 4, none⟩ = some (.int .u32 t31018) := (blk_cell BK31001.out 4).trans rfl; have hcz53_5 : w52.cell? ⟨gb31001, 5, none⟩ = some (.slice Ao45 t31019.length co45) := (blk_cell BK31001.out 5).trans rfl; have hcz53_6 : w52.cell? ⟨gb31001, 6, none⟩ = some (.int .i64 t31022) := (blk_cell BK31001.out 6).trans rfl; have hcz53_7 : w52.cell? ⟨gb31001, 7, none⟩ = some (.slice Ao46 t31023.length co46) := (blk_cell BK31001.out 7).trans rfl; have hcz53_8 : w52.cell? ⟨gb31001, 8, none⟩ = some (.int .i64 t31026) := (blk_cell BK31001.out 8).trans rfl; have hcz53_9 : w52.cell? ⟨gb31001, 9, none⟩ = some (.string t31027) := (blk_cell BK31001.out 9).trans rfl; have hfz53_0 := blk_frozen BK31001.out 0; have hfz53_1 := blk_frozen BK31001.out 1; have hfz53_2 := blk_frozen BK31001.out 2; have hfz53_3 := blk_frozen BK31001.out 3; have hfz53_4 := blk_frozen BK31001.out 4; have hfz53_5 := blk_frozen BK31001.out 5; have hfz53_6 := blk_frozen BK31001.out 6; have hfz53_7 := blk_frozen BK31001.out 7; have hfz53_8 := blk_frozen BK31001.out 8; have hfz53_9 := blk_frozen BK31001.out 9; have hcz54_0 : w52.cell? ⟨gb31002, 0, none⟩ = some (.string a1_0) := (blk_cell BK31002.out 0).trans rfl; have hcz54_1 : w52.cell? ⟨gb31002, 1, none⟩ = some (.int .i64 a1_1) := (blk_cell BK31002.out 1).trans rfl; have hcz54_2 : w52.cell? ⟨gb31002, 2, none⟩ = some (.int .i64 a1_2) := (blk_cell BK31002.out 2).trans rfl; have hcz54_3 : w52.cell? ⟨gb31002, 3, none⟩ = some (.int .u32 a1_3) := (blk_cell BK31002.out 3).trans rfl; have hcz54_4 : w52.cell? ⟨gb31002, 4, none⟩ = some (.slice Ao50 t31028.length co50) := (blk_cell BK31002.out 4).trans rfl; have hfz54_0 := blk_frozen BK31002.out 0; have hfz54_1 := blk_frozen BK31002.out 1; have hfz54_2 := blk_frozen BK31002.out 2; have hfz54_3 := blk_frozen BK31002.out 3; have hfz54_4 := blk_frozen BK31002.out 4) | ((with_reducible refine gate_builtin (b := .append) (xs := #[.tmp 36, .tmp 38]) rfl ?_); at_builtin; refine Kd.S_append k51 (w0 := w) w.heap.size rfl (.tmp 36) (.tmp 38) 26 51 (.agg #[(.string ⟨#[]⟩), (.int .i64 0), (.int .i64 0), (.int .u32 0), (.slice none 0 0)]) 64 rfl Try.underlying26 info51 rfl (by decide) (by omega) (.slice Ao43 t31012.length co43) t31012 (⟨a1_0, a1_1, a1_2, a1_3, t31028⟩ : S51) [.string a1_0, .int .i64 a1_1, .int .i64 a1_2, .int .u32 a1_3, .slice Ao50 t31028.length co50] (fun k_ => k_ ≠ gb31002) (fun k_ => some k_ = (.slice Ao50 t31028.length co50 : Value).ownBlock) rfl rfl ?aP (fun k_ hk_ => ((Kd.R_mono (ok' := fun k_ => ((fun k_ => k_ ≠ gb31002)) k_ ∧ some k_ ≠ (.slice Ao43 t31012.length co43 : Value).ownBlock) (Kd.R_types (Kd.R_apart' (HO31030.out) (Kd.S_typed HO31014.out) (by decide)) BK31002.out (by decide)) (fun k_ hk => ⟨hk.2, hk.1.2⟩))).1 k_ hk_.symm) ?aF ?aO ?aB ?aS ?aL ?_; (case aP => exact k51_mkM _ _ _ (⟨a1_0, a1_1, a1_2, a1_3, t31028⟩ : S51) (Kd.R_mono (Kd.R_tight rfl (Kd.R_mono (ok' := fun k_ => ((fun k_ => k_ ≠ gb31002)) k_ ∧ some k_ ≠ (.slice Ao43 t31012.length co43 : Value).ownBlock) (Kd.R_types (Kd.R_apart' (HO31030.out) (Kd.S_typed HO31014.out) (by decide)) BK31002.out (by decide)) (fun k_ hk => ⟨hk.2, hk.1.2⟩))) (fun _ h_ => h_))); (case aB => exact (by repeat (first | (with_reducible first | exact HB.out | apply below_alloc | apply pw_below_drewN | apply below_drew1 | refine below_set ?_ GE31001.out | refine below_set ?_ GE31002.out | refine below_set ?_ GE31003.out) | exact HB.out))); (case aF => exact (fun k_ hk => Kd.freshB (g := gb31002) (o := .cells #[.string a1_0, .int .i64 a1_1, .int .i64 a1_2, .int .u32 a1_3, .slice Ao50 t31028.length co50] 51 (0, 0)) (by (with_reducible repeat (first | refine blk_drewN ?_ _ | refine blk_drew ?_ | refine blk_alloc ?_ _)); exact BK31002.out) k_ hk)); (case aO => exact (by (with_reducible repeat (first | apply Kd.S_alloc | apply Kd.S_drewN | apply Kd.S_drew)); exact Kd.S_mono HO31014.out (fun k_ hk => ⟨hk.2, fun e_ => hk.1 e_⟩))); (case aS => exact (below_size (by repeat (first | (with_reducible first | exact HB.out | apply below_alloc | apply pw_below_drewN | apply below_drew1 | refine below_set ?_ GE31001.out | refine below_set ?_ GE31002.out | refine below_set ?_ GE31003.out) | exact HB.out)))); (case aL => have := LMc35.out; omega); intro v31032 w55 ho hb hg hat; rw [← Ny31031.out] at ho; have n0_ := Aside0.mk (blk_grown (g := gb31001) (o := .cells #[.slice Ao40 t31006.length co40, .slice Ao42 t31009.length co42, .slice Ao43 t31012.length co43, .slice Ao44 t31015.length co44, .int .u32 t31018, .slice Ao45 t31019.length co45, .int .i64 t31022, .slice Ao46 t31023.length co46, .int .i64 t31026, .string t31027] 32 (0, 0)) (by (with_reducible repeat (first | refine blk_drewN ?_ _ | refine blk_drew ?_ | refine blk_alloc ?_ _)); exact BK31001.out) hg (Kd.S_ne HO31014.out BK31001.out (by decide))); have n1_ := Aside0.mk (blk_grown (g := gb31002) (o := .cells #[.string a1_0, .int .i64 a1_1, .int .i64 a1_2, .int .u32 a1_3, .slice Ao50 t31028.length co50] 51 (0, 0)) (by (with_reducible repeat (first | refine blk_drewN ?_ _ | refine blk_drew ?_ | refine blk_alloc ?_ _)); exact BK31002.out) hg (Kd.S_away HO31014.out (fun _ hk => hk.2))); have n2_ := Aside0.mk (blk_grown (g := gb31003) (o := .cells #[.slice none 0 0, .slice none 0 0, .slice none 0 0, .slice none 0 0, .int .u32 0, .slice none 0 0, .int .i64 0, .slice none 0 0, .int .i64 0, .string (⟨#[]⟩ : ByteArray)] 32 (0, 0)) (by (with_reducible repeat (first | refine blk_drewN ?_ _ | refine blk_drew ?_ | refine blk_alloc ?_ _)); exact BK31003.out) hg (Kd.S_ne HO31014.out BK31003.out (by decide))); have n3_ := Aside0.mk (Kd.R_over' (by (with_reducible repeat (first | apply Kd.R_alloc | apply Kd.R_drewN | apply Kd.R_drew)); exact HO31008.out) (Kd.S_typed (by (with_reducible repeat (first | apply Kd.S_alloc | apply Kd.S_drewN | apply Kd.S_drew)); exact HO31014.out)) (by decide) hg); have n4_ := Aside0.mk (Kd.R_over' (by (with_reducible repeat (first | apply Kd.R_alloc | apply Kd.R_drewN | apply Kd.R_drew)); exact HO31011.out) (Kd.S_typed (by (with_reducible repeat (first | apply Kd.S_alloc | apply Kd.S_drewN | apply Kd.S_drew)); exact HO31014.out)) (by decide) hg); have n5_ := Aside0.mk (Kd.R_over' (by (with_reducible repeat (first | apply Kd.R_alloc | apply Kd.R_drewN | apply Kd.R_drew)); exact HO31017.out) (Kd.S_typed (by (with_reducible repeat (first | apply Kd.S_alloc | apply Kd.S_drewN | apply Kd.S_drew)); exact HO31014.out)) (by decide) hg); have n6_ := Aside0.mk (Kd.R_over' (by (with_reducible repeat (first | apply Kd.R_alloc | apply Kd.R_drewN | apply Kd.R_drew)); exact HO31021.out) (Kd.S_typed (by (with_reducible repeat (first | apply Kd.S_alloc | apply Kd.S_drewN | apply Kd.S_drew)); exact HO31014.out)) (by decide) hg); have n7_ := Aside0.mk (Kd.S_over' (by (with_reducible repeat (first | apply Kd.S_alloc | apply Kd.S_drewN | apply Kd.S_drew)); exact HO31025.out) (Kd.S_typed (by (with_reducible repeat (first | apply Kd.S_alloc | apply Kd.S_drewN | apply Kd.S_drew)); exact HO31014.out)) (by decide) hg); have n8_ := Aside0.mk (hb); have n9_ := Aside0.mk (ho); clear BK31001; clear BK31002; clear BK31003; clear HO31008; clear HO31011; clear HO31017; clear HO31021; clear HO31025; clear HB; clear HO31014; clear HO31030; have BK31001 := n0_; have BK31002 := n1_; have BK31003 := n2_; have HO31008 := n3_; have HO31011 := n4_; have HO31017 := n5_; have HO31021 := n6_; have HO31025 := n7_; have HB := n8_; have HO31033 := n9_; clear n0_ n1_ n2_ n3_ n4_ n5_ n6_ n7_ n8_ n9_; clear ho hb hg hat; obtain ⟨Ao56, co56, eo56⟩ := Kd.S_slice HO31033.out; subst eo56; have hcz57_0 : w55.cell? ⟨gb31001, 0, none⟩ = some (.slice Ao40 t31006.length co40) := (blk_cell BK31001.out 0).trans rfl; have hcz57_1 : w55.cell? ⟨gb31001, 1, none⟩ = some (.slice Ao42 t31009.length co42) := (blk_cell BK31001.out 1).trans rfl; have hcz57_2 : w55.cell? ⟨gb31001, 2, none⟩ = some (.slice Ao43 t31012.length co43) := (blk_cell BK31001.out 2).trans rfl; have hcz57_3 : w55.cell? ⟨gb31001, 3, none⟩ = some (.slice Ao44 t31015.length co44) := (blk_cell BK31001.out 3).trans rfl; have hcz57_4 : w55.cell? ⟨gb31001, 4, none⟩ = some (.int .u32 t31018) := (blk_cell BK31001.out 4).trans rfl; have hcz57_5 : w55.cell? ⟨gb31001, 5, none⟩ = some (.slice Ao45 t31019.length co45) := (blk_cell BK31001.out 5).trans rfl; have hcz57_6 : w55.cell? ⟨gb31001, 6, none⟩ = some (.int .i64 t31022) := (blk_cell BK31001.out 6).trans rfl; have hcz57_7 : w55.cell? ⟨gb31001, 7, none⟩ = some (.slice Ao46 t31023.length co46) := (blk_cell BK31001.out 7).trans rfl; have hcz57_8 : w55.cell? ⟨gb31001, 8, none⟩ = some (.int .i64 t31026) := (blk_cell BK31001.out 8).trans rfl; have hcz57_9 : w55.cell? ⟨gb31001, 9, none⟩ = some (.string t31027) := (blk_cell BK31001.out 9).trans rfl; have hfz57_0 := blk_frozen BK31001.out 0; have hfz57_1 := blk_frozen BK31001.out 1; have hfz57_2 := blk_frozen BK31001.out 2; have hfz57_3 := blk_frozen BK31001.out 3; have hfz57_4 := blk_frozen BK31001.out 4; have hfz57_5 := blk_frozen BK31001.out 5; have hfz57_6 := blk_frozen BK31001.out 6; have hfz57_7 := blk_frozen BK31001.out 7; have hfz57_8 := blk_frozen BK31001.out 8; have hfz57_9 := blk_frozen BK31001.out 9; have hcz58_0 : w55.cell? ⟨gb31003, 0, none⟩ = some (.slice none 0 0) := (blk_cell BK31003.out 0).trans rfl; have hcz58_1 : w55.cell? ⟨gb31003, 1, none⟩ = some (.slice none 0 0) := (blk_cell BK31003.out 1).trans rfl; have hcz58_2 : w55.cell? ⟨gb31003, 2, none⟩ = some (.slice none 0 0) := (blk_cell BK31003.out 2).trans rfl; have hcz58_3 : w55.cell? ⟨gb31003, 3, none⟩ = some (.slice none 0 0) := (blk_cell BK31003.out 3).trans rfl; have hcz58_4 : w55.cell? ⟨gb31003, 4, none⟩ = some (.int .u32 0) := (blk_cell BK31003.out 4).trans rfl; have hcz58_5 : w55.cell? ⟨gb31003, 5, none⟩ = some (.slice none 0 0) := (blk_cell BK31003.out 5).trans rfl; have hcz58_6 : w55.cell? ⟨gb31003, 6, none⟩ = some (.int .i64 0) := (blk_cell BK31003.out 6).trans rfl; have hcz58_7 : w55.cell? ⟨gb31003, 7, none⟩ = some (.slice none 0 0) := (blk_cell BK31003.out 7).trans rfl; have hcz58_8 : w55.cell? ⟨gb31003, 8, none⟩ = some (.int .i64 0) := (blk_cell BK31003.out 8).trans rfl; have hcz58_9 : w55.cell? ⟨gb31003, 9, none⟩ = some (.string (⟨#[]⟩ : ByteArray)) := (blk_cell BK31003.out 9).trans rfl; have hfz58_0 := blk_frozen BK31003.out 0; have hfz58_1 := blk_frozen BK31003.out 1; have hfz58_2 := blk_frozen BK31003.out 2; have hfz58_3 := blk_frozen BK31003.out 3; have hfz58_4 := blk_frozen BK31003.out 4; have hfz58_5 := blk_frozen BK31003.out 5; have hfz58_6 := blk_frozen BK31003.out 6; have hfz58_7 := blk_frozen BK31003.out 7; have hfz58_8 := blk_frozen BK31003.out 8; have hfz58_9 := blk_frozen BK31003.out 9))
            refine bodyPost_ret (results_ctt rfl _ _ gb31003 32 #[.slice Ao40 t31006.length co40, .slice Ao42 t31009.length co42, .slice Ao56 y31031.length co56, .slice Ao44 t31015.length co44, .int .u32 t31018, .slice Ao45 t31019.length co45, .int .i64 t31022, .slice Ao46 t31023.length co46, .int .i64 t31026, .string t31027] (0, 0) _ rfl (by (with_reducible repeat (first | refine blk_drewN ?_ _ | refine blk_drew ?_ | refine blk_alloc ?_ _)); refine blk_put (cs := #[.slice Ao40 t31006.length co40, .slice Ao42 t31009.length co42, .slice Ao56 y31031.length co56, .slice Ao44 t31015.length co44, .int .u32 t31018, .slice Ao45 t31019.length co45, .int .i64 t31022, .slice Ao46 t31023.length co46, .int .i64 t31026, .string (⟨#[]⟩ : ByteArray)]) ?_ 9 _ rfl; (with_reducible repeat (first | refine blk_drewN ?_ _ | refine blk_drew ?_ | refine blk_alloc ?_ _)); refine blk_put (cs := #[.slice Ao40 t31006.length co40, .slice Ao42 t31009.length co42, .slice Ao56 y31031.length co56, .slice Ao44 t31015.length co44, .int .u32 t31018, .slice Ao45 t31019.length co45, .int .i64 t31022, .slice Ao46 t31023.length co46, .int .i64 0, .string (⟨#[]⟩ : ByteArray)]) ?_ 8 _ rfl; (with_reducible repeat (first | refine blk_drewN ?_ _ | refine blk_drew ?_ | refine blk_alloc ?_ _)); refine blk_put (cs := #[.slice Ao40 t31006.length co40, .slice Ao42 t31009.length co42, .slice Ao56 y31031.length co56, .slice Ao44 t31015.length co44, .int .u32 t31018, .slice Ao45 t31019.length co45, .int .i64 t31022, .slice none 0 0, .int .i64 0, .string (⟨#[]⟩ : ByteArray)]) ?_ 7 _ rfl; (with_reducible repeat (first | refine blk_drewN ?_ _ | refine blk_drew ?_ | refine blk_alloc ?_ _)); refine blk_put (cs := #[.slice Ao40 t31006.length co40, .slice Ao42 t31009.length co42, .slice Ao56 y31031.length co56, .slice Ao44 t31015.length co44, .int .u32 t31018, .slice Ao45 t31019.length co45, .int .i64 0, .slice none 0 0, .int .i64 0, .string (⟨#[]⟩ : ByteArray)]) ?_ 6 _ rfl; (with_reducible repeat (first | refine blk_drewN ?_ _ | refine blk_drew ?_ | refine blk_alloc ?_ _)); refine blk_put (cs := #[.slice Ao40 t31006.length co40, .slice Ao42 t31009.length co42, .slice Ao56 y31031.length co56, .slice Ao44 t31015.length co44, .int .u32 t31018, .slice none 0 0, .int .i64 0, .slice none 0 0, .int .i64 0, .string (⟨#[]⟩ : ByteArray)]) ?_ 5 _ rfl; (with_reducible repeat (first | refine blk_drewN ?_ _ | refine blk_drew ?_ | refine blk_alloc ?_ _)); refine blk_put (cs := #[.slice Ao40 t31006.length co40, .slice Ao42 t31009.length co42, .slice Ao56 y31031.length co56, .slice Ao44 t31015.length co44, .int .u32 0, .slice none 0 0, .int .i64 0, .slice none 0 0, .int .i64 0, .string (⟨#[]⟩ : ByteArray)]) ?_ 4 _ rfl; (with_reducible repeat (first | refine blk_drewN ?_ _ | refine blk_drew ?_ | refine blk_alloc ?_ _)); refine blk_put (cs := #[.slice Ao40 t31006.length co40, .slice Ao42 t31009.length co42, .slice Ao56 y31031.length co56, .slice none 0 0, .int .u32 0, .slice none 0 0, .int .i64 0, .slice none 0 0, .int .i64 0, .string (⟨#[]⟩ : ByteArray)]) ?_ 3 _ rfl; (with_reducible repeat (first | refine blk_drewN ?_ _ | refine blk_drew ?_ | refine blk_alloc ?_ _)); refine blk_put (cs := #[.slice Ao40 t31006.length co40, .slice Ao42 t31009.length co42, .slice none 0 0, .slice none 0 0, .int .u32 0, .slice none 0 0, .int .i64 0, .slice none 0 0, .int .i64 0, .string (⟨#[]⟩ : ByteArray)]) ?_ 2 _ rfl; (with_reducible repeat (first | refine blk_drewN ?_ _ | refine blk_drew ?_ | refine blk_alloc ?_ _)); refine blk_put (cs := #[.slice Ao40 t31006.length co40, .slice none 0 0, .slice none 0 0, .slice none 0 0, .int .u32 0, .slice none 0 0, .int .i64 0, .slice none 0 0, .int .i64 0, .string (⟨#[]⟩ : ByteArray)]) ?_ 1 _ rfl; (with_reducible repeat (first | refine blk_drewN ?_ _ | refine blk_drew ?_ | refine blk_alloc ?_ _)); refine blk_put (cs := #[.slice none 0 0, .slice none 0 0, .slice none 0 0, .slice none 0 0, .int .u32 0, .slice none 0 0, .int .i64 0, .slice none 0 0, .int .i64 0, .string (⟨#[]⟩ : ByteArray)]) ?_ 0 _ rfl; (with_reducible repeat (first | refine blk_drewN ?_ _ | refine blk_drew ?_ | refine blk_alloc ?_ _)); refine blk_far ?_ NB31003_31001.out _; (with_reducible repeat (first | refine blk_drewN ?_ _ | refine blk_drew ?_ | refine blk_alloc ?_ _)); exact BK31003.out) Try.underlying32 rfl (by kernel_rfl)) rfl ?_
            exact ⟨_, _, _, _, _, _, by first | rfl | (simp [errW_none, errW_some] <;> rfl) | (simp [*, errW_none, errW_some] <;> rfl), by (with_reducible repeat (first | apply Kd.R_alloc | apply Kd.R_drewN | apply Kd.R_drew)); exact Kd.R_mono (Kd.R_far (p := ⟨gb31003, 9, none⟩) (Kd.R_far (p := ⟨gb31003, 8, none⟩) (Kd.R_far (p := ⟨gb31003, 7, none⟩) (Kd.R_far (p := ⟨gb31003, 6, none⟩) (Kd.R_far (p := ⟨gb31003, 5, none⟩) (Kd.R_far (p := ⟨gb31003, 4, none⟩) (Kd.R_far (p := ⟨gb31003, 3, none⟩) (Kd.R_far (p := ⟨gb31003, 2, none⟩) (Kd.R_far (p := ⟨gb31003, 1, none⟩) (Kd.R_far (p := ⟨gb31003, 0, none⟩) (Kd.R_far (p := ⟨gb31001, 2, none⟩) (Kd.R_types (Kd.R_types HO31008.out BK31001.out (by decide)) BK31003.out (by decide)) (fun _ hk => hk.1.2) (.slice Ao56 y31031.length co56)) (fun _ hk => hk.2) (.slice Ao40 t31006.length co40)) (fun _ hk => hk.2) (.slice Ao42 t31009.length co42)) (fun _ hk => hk.2) (.slice Ao56 y31031.length co56)) (fun _ hk => hk.2) (.slice Ao44 t31015.length co44)) (fun _ hk => hk.2) (.int .u32 t31018)) (fun _ hk => hk.2) (.slice Ao45 t31019.length co45)) (fun _ hk => hk.2) (.int .i64 t31022)) (fun _ hk => hk.2) (.slice Ao46 t31023.length co46)) (fun _ hk => hk.2) (.int .i64 t31026)) (fun _ hk => hk.2) (.string t31027)) (fun _ hk => trivial), by (with_reducible repeat (first | apply Kd.R_alloc | apply Kd.R_drewN | apply Kd.R_drew)); exact Kd.R_mono (Kd.R_far (p := ⟨gb31003, 9, none⟩) (Kd.R_far (p := ⟨gb31003, 8, none⟩) (Kd.R_far (p := ⟨gb31003, 7, none⟩) (Kd.R_far (p := ⟨gb31003, 6, none⟩) (Kd.R_far (p := ⟨gb31003, 5, none⟩) (Kd.R_far (p := ⟨gb31003, 4, none⟩) (Kd.R_far (p := ⟨gb31003, 3, none⟩) (Kd.R_far (p := ⟨gb31003, 2, none⟩) (Kd.R_far (p := ⟨gb31003, 1, none⟩) (Kd.R_far (p := ⟨gb31003, 0, none⟩) (Kd.R_far (p := ⟨gb31001, 2, none⟩) (Kd.R_types (Kd.R_types HO31011.out BK31001.out (by decide)) BK31003.out (by decide)) (fun _ hk => hk.1.2) (.slice Ao56 y31031.length co56)) (fun _ hk => hk.2) (.slice Ao40 t31006.length co40)) (fun _ hk => hk.2) (.slice Ao42 t31009.length co42)) (fun _ hk => hk.2) (.slice Ao56 y31031.length co56)) (fun _ hk => hk.2) (.slice Ao44 t31015.length co44)) (fun _ hk => hk.2) (.int .u32 t31018)) (fun _ hk => hk.2) (.slice Ao45 t31019.length co45)) (fun _ hk => hk.2) (.int .i64 t31022)) (fun _ hk => hk.2) (.slice Ao46 t31023.length co46)) (fun _ hk => hk.2) (.int .i64 t31026)) (fun _ hk => hk.2) (.string t31027)) (fun _ hk => trivial), by (with_reducible repeat (first | apply Kd.S_alloc | apply Kd.S_drewN | apply Kd.S_drew)); exact Kd.S_mono (Kd.S_far (p := ⟨gb31003, 9, none⟩) (Kd.S_far (p := ⟨gb31003, 8, none⟩) (Kd.S_far (p := ⟨gb31003, 7, none⟩) (Kd.S_far (p := ⟨gb31003, 6, none⟩) (Kd.S_far (p := ⟨gb31003, 5, none⟩) (Kd.S_far (p := ⟨gb31003, 4, none⟩) (Kd.S_far (p := ⟨gb31003, 3, none⟩) (Kd.S_far (p := ⟨gb31003, 2, none⟩) (Kd.S_far (p := ⟨gb31003, 1, none⟩) (Kd.S_far (p := ⟨gb31003, 0, none⟩) (Kd.S_far (p := ⟨gb31001, 2, none⟩) (Kd.S_types (Kd.S_types HO31033.out BK31001.out (by decide)) BK31003.out (by decide)) (fun _ hk => hk.1.2) (.slice Ao56 y31031.length co56)) (fun _ hk => hk.2) (.slice Ao40 t31006.length co40)) (fun _ hk => hk.2) (.slice Ao42 t31009.length co42)) (fun _ hk => hk.2) (.slice Ao56 y31031.length co56)) (fun _ hk => hk.2) (.slice Ao44 t31015.length co44)) (fun _ hk => hk.2) (.int .u32 t31018)) (fun _ hk => hk.2) (.slice Ao45 t31019.length co45)) (fun _ hk => hk.2) (.int .i64 t31022)) (fun _ hk => hk.2) (.slice Ao46 t31023.length co46)) (fun _ hk => hk.2) (.int .i64 t31026)) (fun _ hk => hk.2) (.string t31027)) (fun _ hk => trivial), by (with_reducible repeat (first | apply Kd.R_alloc | apply Kd.R_drewN | apply Kd.R_drew)); exact Kd.R_mono (Kd.R_far (p := ⟨gb31003, 9, none⟩) (Kd.R_far (p := ⟨gb31003, 8, none⟩) (Kd.R_far (p := ⟨gb31003, 7, none⟩) (Kd.R_far (p := ⟨gb31003, 6, none⟩) (Kd.R_far (p := ⟨gb31003, 5, none⟩) (Kd.R_far (p := ⟨gb31003, 4, none⟩) (Kd.R_far (p := ⟨gb31003, 3, none⟩) (Kd.R_far (p := ⟨gb31003, 2, none⟩) (Kd.R_far (p := ⟨gb31003, 1, none⟩) (Kd.R_far (p := ⟨gb31003, 0, none⟩) (Kd.R_far (p := ⟨gb31001, 2, none⟩) (Kd.R_types (Kd.R_types HO31017.out BK31001.out (by decide)) BK31003.out (by decide)) (fun _ hk => hk.1.2) (.slice Ao56 y31031.length co56)) (fun _ hk => hk.2) (.slice Ao40 t31006.length co40)) (fun _ hk => hk.2) (.slice Ao42 t31009.length co42)) (fun _ hk => hk.2) (.slice Ao56 y31031.length co56)) (fun _ hk => hk.2) (.slice Ao44 t31015.length co44)) (fun _ hk => hk.2) (.int .u32 t31018)) (fun _ hk => hk.2) (.slice Ao45 t31019.length co45)) (fun _ hk => hk.2) (.int .i64 t31022)) (fun _ hk => hk.2) (.slice Ao46 t31023.length co46)) (fun _ hk => hk.2) (.int .i64 t31026)) (fun _ hk => hk.2) (.string t31027)) (fun _ hk => trivial), by (with_reducible repeat (first | apply Kd.R_alloc | apply Kd.R_drewN | apply Kd.R_drew)); exact Kd.R_mono (Kd.R_far (p := ⟨gb31003, 9, none⟩) (Kd.R_far (p := ⟨gb31003, 8, none⟩) (Kd.R_far (p := ⟨gb31003, 7, none⟩) (Kd.R_far (p := ⟨gb31003, 6, none⟩) (Kd.R_far (p := ⟨gb31003, 5, none⟩) (Kd.R_far (p := ⟨gb31003, 4, none⟩) (Kd.R_far (p := ⟨gb31003, 3, none⟩) (Kd.R_far (p := ⟨gb31003, 2, none⟩) (Kd.R_far (p := ⟨gb31003, 1, none⟩) (Kd.R_far (p := ⟨gb31003, 0, none⟩) (Kd.R_far (p := ⟨gb31001, 2, none⟩) (Kd.R_types (Kd.R_types HO31021.out BK31001.out (by decide)) BK31003.out (by decide)) (fun _ hk => hk.1.2) (.slice Ao56 y31031.length co56)) (fun _ hk => hk.2) (.slice Ao40 t31006.length co40)) (fun _ hk => hk.2) (.slice Ao42 t31009.length co42)) (fun _ hk => hk.2) (.slice Ao56 y31031.length co56)) (fun _ hk => hk.2) (.slice Ao44 t31015.length co44)) (fun _ hk => hk.2) (.int .u32 t31018)) (fun _ hk => hk.2) (.slice Ao45 t31019.length co45)) (fun _ hk => hk.2) (.int .i64 t31022)) (fun _ hk => hk.2) (.slice Ao46 t31023.length co46)) (fun _ hk => hk.2) (.int .i64 t31026)) (fun _ hk => hk.2) (.string t31027)) (fun _ hk => ⟨hk.1.1.1, hk.1.1.2⟩), by (with_reducible repeat (first | apply Kd.S_alloc | apply Kd.S_drewN | apply Kd.S_drew)); exact Kd.S_mono (Kd.S_far (p := ⟨gb31003, 9, none⟩) (Kd.S_far (p := ⟨gb31003, 8, none⟩) (Kd.S_far (p := ⟨gb31003, 7, none⟩) (Kd.S_far (p := ⟨gb31003, 6, none⟩) (Kd.S_far (p := ⟨gb31003, 5, none⟩) (Kd.S_far (p := ⟨gb31003, 4, none⟩) (Kd.S_far (p := ⟨gb31003, 3, none⟩) (Kd.S_far (p := ⟨gb31003, 2, none⟩) (Kd.S_far (p := ⟨gb31003, 1, none⟩) (Kd.S_far (p := ⟨gb31003, 0, none⟩) (Kd.S_far (p := ⟨gb31001, 2, none⟩) (Kd.S_types (Kd.S_types HO31025.out BK31001.out (by decide)) BK31003.out (by decide)) (fun _ hk => hk.1.2) (.slice Ao56 y31031.length co56)) (fun _ hk => hk.2) (.slice Ao40 t31006.length co40)) (fun _ hk => hk.2) (.slice Ao42 t31009.length co42)) (fun _ hk => hk.2) (.slice Ao56 y31031.length co56)) (fun _ hk => hk.2) (.slice Ao44 t31015.length co44)) (fun _ hk => hk.2) (.int .u32 t31018)) (fun _ hk => hk.2) (.slice Ao45 t31019.length co45)) (fun _ hk => hk.2) (.int .i64 t31022)) (fun _ hk => hk.2) (.slice Ao46 t31023.length co46)) (fun _ hk => hk.2) (.int .i64 t31026)) (fun _ hk => hk.2) (.string t31027)) (fun _ hk => hk.1.1), by repeat (first | (with_reducible first | exact HB.out | apply below_alloc | apply pw_below_drewN | apply below_drew1 | refine below_set ?_ GE31001.out | refine below_set ?_ GE31002.out | refine below_set ?_ GE31003.out) | exact HB.out)⟩
          · rw [if_neg c35] at H
            exact absurd H (by simp)

end Go.Proofs.Ytfpkakedlapmkaa.Q
end
section
set_option linter.unusedSimpArgs false
set_option linter.unusedVariables false
namespace Go.Proofs.Ytfpkakedlapmkaa.Q
open Go.RowKit Go.Proofs.YtfpkakedlapmkaaW.PrintWords Go.Proofs.YtfpkakedlapmkaaW.PrintLast
set_option maxHeartbeats 1000000 in
set_option maxRecDepth 100000 in
theorem indexW_nil (A : Option Addr) (c : Nat) (fv : Value) (w : World) : Calls Try.prog 97 #[.slice A 0 c, fv] w fun e w' => e = .returned (.int .i64 (-1)) ∧ w' = w := by
  go_enter Try.func97, Try.ntmps97
  go_wp2
  go_loopg [8] 0 (fun kq v8 w' => v8 = .int .i64 0 ∧ w' = w)
  case atStart => exact ⟨rfl, rfl⟩
  case round =>
    obtain ⟨rfl, rfl⟩ := hrel
    go_wp2
    go_ret
    exact ⟨rfl, rfl⟩
set_option maxHeartbeats 1000000 in
set_option maxRecDepth 100000 in
theorem containsW_nil (A : Option Addr) (c : Nat) (fv : Value) (w : World) : Calls Try.prog 79 #[.slice A 0 c, fv] w fun e w' => e = .returned (.bool false) ∧ w' = w := by
  go_enter Try.func79, Try.ntmps79
  go_wp2_with (go_at_call 97; refine (indexW_nil _ _ _ _).mono ?_; rintro e w' ⟨rfl, rfl⟩)
  go_ret
  exact ⟨rfl, rfl⟩
set_option maxHeartbeats 1000000 in
set_option maxRecDepth 100000 in
theorem indexI_nil (A : Option Addr) (c : Nat) (fv : Value) (w : World) : Calls Try.prog 81 #[.slice A 0 c, fv] w fun e w' => e = .returned (.int .i64 (-1)) ∧ w' = w := by
  go_enter Try.func81, Try.ntmps81
  go_wp2
  go_loopg [8] 0 (fun kq v8 w' => v8 = .int .i64 0 ∧ w' = w)
  case atStart => exact ⟨rfl, rfl⟩
  case round =>
    obtain ⟨rfl, rfl⟩ := hrel
    go_wp2
    go_ret
    exact ⟨rfl, rfl⟩
set_option maxHeartbeats 1000000 in
set_option maxRecDepth 100000 in
theorem containsI_nil (A : Option Addr) (c : Nat) (fv : Value) (w : World) : Calls Try.prog 48 #[.slice A 0 c, fv] w fun e w' => e = .returned (.bool false) ∧ w' = w := by
  go_enter Try.func48, Try.ntmps48
  go_wp2_with (go_at_call 81; refine (indexI_nil _ _ _ _).mono ?_; rintro e w' ⟨rfl, rfl⟩)
  go_ret
  exact ⟨rfl, rfl⟩
set_option maxHeartbeats 1000000 in
set_option maxRecDepth 100000 in
theorem instsRight_nil (v0 v1 v2 v3 : Value) (a4 : Int) (v5 : Value) (a6 : Int) (A : Option Addr) (c : Nat) (a9 : ByteArray) (w : World) :
    Calls Try.prog 46 #[.agg #[v0, v1, v2, v3, .int .u32 a4, v5, .int .i64 a6, .slice A 0 c, .int .i64 (-1), .string a9]] w fun e w' => e = .returned (.bool true) ∧ Below w.heap.size w w' := by
  have hB : Below w.heap.size w (w.alloc (.cells #[v0, v1, v2, v3, .int .u32 a4, v5, .int .i64 a6, .slice A 0 c, .int .i64 (-1), .string a9] 32 (0, 0))) := below_alloc (Below.refl _ _) _
  have HB := Aside0.mk hB
  clear hB
  go_enter Try.func46, Try.ntmps46
  go_wp2
  go_loopg [26] 0 (fun kq v8 w' => v8 = .int .i64 0 ∧ w' = w.alloc (.cells #[v0, v1, v2, v3, .int .u32 a4, v5, .int .i64 a6, .slice A 0 c, .int .i64 (-1), .string a9] 32 (0, 0)))
  case atStart => exact ⟨rfl, rfl⟩
  case round =>
    obtain ⟨rfl, rfl⟩ := hrel
    go_wp2
    go_loopg [41] 0 (fun kq v8 w' => v8 = .int .i64 0 ∧ w' = w.alloc (.cells #[v0, v1, v2, v3, .int .u32 a4, v5, .int .i64 a6, .slice A 0 c, .int .i64 (-1), .string a9] 32 (0, 0)))
    case atStart => exact ⟨rfl, rfl⟩
    case round =>
      obtain ⟨rfl, rfl⟩ := hrel
      go_wp2
      go_ret
      exact ⟨rfl, HB.out⟩
end Go.Proofs.Ytfpkakedlapmkaa.Q
end
section
set_option linter.unusedSimpArgs false
set_option linter.unusedVariables false
namespace Go.Proofs.Ytfpkakedlapmkaa.Q
open Go.RowKit Go.Proofs.YtfpkakedlapmkaaW.PrintWords Go.Proofs.YtfpkakedlapmkaaW.PrintLast
end Go.Proofs.Ytfpkakedlapmkaa.Q
end
