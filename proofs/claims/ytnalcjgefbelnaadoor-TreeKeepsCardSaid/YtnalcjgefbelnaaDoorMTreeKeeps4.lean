/- Contracts of Go functions and plain facts, of several texts, one behind the other; no condition. -/
import Derived.Test.YtnalcjgefbelnaaDoorMTreeKeeps2
import Derived.Test.YtnalcjgefbelnaaDoorMTreeKeeps3
import Derived.Shelf.Strings.Builder1
import Derived.Shelf.Strings.Builder2
import Derived.Shelf.Strings.OnBuilder
import Derived.Test.YtnalcjgefbelnaaDoorProg
import Derived.Lib.Strings
import Derived.Lib.ItoaNum
section
namespace Go.Proofs.YtnalcjgefbelnaaDoor.Q
open Go.RowKit Go.Proofs.YtnalcjgefbelnaaDoorW.PrintWords Go.Proofs.YtnalcjgefbelnaaDoorW.PrintLast Go.Proofs.YtnalcjgefbelnaaDoorW.PrintMore
set_option linter.unusedVariables false
set_option linter.unusedSimpArgs false

attribute [local go_sem] max2_int min2_int max_two min_two max_three min_three max_four min_four
/-! ### tinderref04_Copy: function 52 -/
def tinderref04_Copy.f (l0 : List Int) : Option (List Int) := if ([] : List Int).length + l0.length < 140737488355328 then (some (([] : List Int) ++ l0)) else (none)

end Go.Proofs.YtnalcjgefbelnaaDoor.Q
end
section
namespace Go.Proofs.YtnalcjgefbelnaaDoor.Q
open Go.RowKit Go.Proofs.YtnalcjgefbelnaaDoorW.PrintWords Go.Proofs.YtnalcjgefbelnaaDoorW.PrintLast Go.Proofs.YtnalcjgefbelnaaDoorW.PrintMore
set_option linter.unusedVariables false
set_option linter.unusedSimpArgs false

attribute [local go_sem] max2_int min2_int max_two min_two max_three min_three max_four min_four
/-! ### tinderref08_Copy: function 18 -/
mutual
def tinderref08_Copy.l0 : Nat → List (S44) → List (S44) → Int → Option ((List (S44)))
  | 0, _, _, _ => none
  | k + 1, x0, x3, x4 => if x4 < (x0.length : Int) then (if 0 ≤ x4 then ((tinderref03_Copy.f ((rd_T44 x0 x4).f1)).bind fun t19004 => ((tinderref03_Copy.f ((rd_T44 x0 x4).f4)).bind fun t19008 => (tinderref08_Copy.l1 k x0 x3 x4 0 ((rd_T44 x0 x4).f0) t19004 ((rd_T44 x0 x4).f2) ([] : List (S53)) t19008))) else (none)) else (some x3)
def tinderref08_Copy.l1 : Nat → List (S44) → List (S44) → Int → Int → ByteArray → List Int → Int → List (S53) → List Int → Option ((List (S44)))
  | 0, _, _, _, _, _, _, _, _, _ => none
  | k + 1, x0, x3, x4, x6, x19012000, x19012001, x19012002, x19012003, x19012004 => if 0 ≤ x4 then (if x4 < (x0.length : Int) then (if x6 < (((rd_T44 x0 x4).f3).length : Int) then (if 0 ≤ x6 then ((tinderref04_Copy.f ((rd_T53 ((rd_T44 x0 x4).f3) x6).f1)).bind fun t19017 => (if x19012003.length < 3518437208883 then (tinderref08_Copy.l1 k x0 x3 x4 (wrap64 (x6 + 1)) x19012000 x19012001 x19012002 (x19012003 ++ [(⟨(rd_T53 ((rd_T44 x0 x4).f3) x6).f0, t19017⟩ : S53)]) x19012004) else (none))) else (none)) else (if x3.length < 1466015503701 then (tinderref08_Copy.l0 k x0 (x3 ++ [(⟨x19012000, x19012001, x19012002, x19012003, x19012004⟩ : S44)]) (wrap64 (x4 + 1))) else (none))) else (none)) else (none)
end
def tinderref08_Copy.f (k : Nat) (l0 : List (S44)) : Option ((List (S44))) := tinderref08_Copy.l0 k l0 ([] : List (S44)) 0
def tinderref08_Copy.T5 : Bool × List (List Nat × List Nat) := (true, [([], []), ([], []), ([0, 1], [0, 1]), ([2], [2]), ([3], [3]), ([], []), ([], []), ([5, 6], [5, 6]), ([7], [7]), ([8], [8]), ([], []), ([], []), ([10, 11], [10, 11]), ([12], [12]), ([13], [13]), ([14], [14]), ([], []), ([], []), ([16, 17], [16, 17]), ([18], [18]), ([19], [19]), ([20, 15], [20]), ([4, 9, 15, 21], [4, 9, 15, 21]), ([], []), ([23, 22, 21, 0, 1, 2, 3, 4, 5, 6, 7, 8, 9, 10, 11, 12, 13, 14, 15, 16, 17, 18, 19, 20, 21, 22, 23], [22, 23])])
def tinderref08_Copy.B5 : List Nat := [0, 0, 3, 7, 15, 0, 0, 96, 224, 480, 0, 0, 3072, 7168, 15360, 31744, 0, 0, 196608, 458752, 983040, 2096128, 4194303, 0, 16777215]
def tinderref08_Copy.T9 : Bool × List (List Nat × List Nat) := (true, [([], []), ([0], [0]), ([], []), ([], []), ([2, 3], [2, 3]), ([4], [4]), ([5], [5]), ([], []), ([6, 7], [6, 7]), ([8], [8]), ([9], [9]), ([], []), ([], []), ([11, 12], [11, 12]), ([13], [13]), ([14], [14]), ([], []), ([15, 16], [15, 16]), ([17], [17]), ([18], [18]), ([19], [19]), ([10, 20], [10, 20]), ([21], [21]), ([1, 22, 20], [1, 22]), ([0, 1, 2, 3, 4, 5, 6, 7, 8, 9, 10, 11, 12, 13, 14, 15, 16, 17, 18, 19, 20, 21, 22, 23], []), ([24, 23, 23, 0, 1, 2, 3, 4, 5, 6, 7, 8, 9, 10, 11, 12, 13, 14, 15, 16, 17, 18, 19, 20, 21, 22, 23], [23, 24])])
def tinderref08_Copy.B9 : List Nat := [0, 1, 0, 0, 12, 28, 60, 0, 252, 508, 1020, 0, 0, 6144, 14336, 30720, 0, 129024, 260096, 522240, 1046528, 2097148, 4194300, 8388607, 16777215, 33554431]

end Go.Proofs.YtnalcjgefbelnaaDoor.Q
end
section
namespace Go.Proofs.YtnalcjgefbelnaaDoor.Q
open Go.RowKit Go.Proofs.YtnalcjgefbelnaaDoorW.PrintWords Go.Proofs.YtnalcjgefbelnaaDoorW.PrintLast Go.Proofs.YtnalcjgefbelnaaDoorW.PrintMore
set_option linter.unusedVariables false
set_option linter.unusedSimpArgs false

attribute [local go_sem] max2_int min2_int max_two min_two max_three min_three max_four min_four
/-! ### tinderref08_wrong: function 54 -/
def tinderref08_wrong.f (k : Nat) (l0 : List (S44)) (a1 : Int) : Option (Int) := (tinderref08_Formed.f k l0).bind fun t55001 => (if t55001 = true then (if a1 < 0 then (some 19) else (if a1 ≥ (l0.length : Int) then (some 19) else (some 0))) else (some 1))

end Go.Proofs.YtnalcjgefbelnaaDoor.Q
end
section
namespace Go.Proofs.YtnalcjgefbelnaaDoor.Q
open Go.RowKit Go.Proofs.YtnalcjgefbelnaaDoorW.PrintWords Go.Proofs.YtnalcjgefbelnaaDoorW.PrintLast Go.Proofs.YtnalcjgefbelnaaDoorW.PrintMore
set_option linter.unusedVariables false
set_option linter.unusedSimpArgs false

attribute [local go_sem] max2_int min2_int max_two min_two max_three min_three max_four min_four
/-! ### tinderref08_Add: function 20 -/
def tinderref08_Add.j0 : Nat → List (S44) → Int → ByteArray → List Int → Bool → Option ((List (S44)) × Int × Int)
  | 0, _, _, _, _, _ => none
  | k + 1, x0, x1, x2, x3, x19 => if x19 = true then (some (([] : List (S44)), 0, 1)) else ((tinderref08_twin.f k x0 (x0.length : Int) x1 x2 x3).bind fun t21003 => (if t21003 = true then (some (([] : List (S44)), 0, 20)) else (if (x0.length : Int) ≥ 32 then (some (([] : List (S44)), 0, 22)) else ((tinderref08_Copy.f k x0).bind fun t21004 => ((tinderref03_Copy.f x3).bind fun t21007 => (if t21004.length < 1466015503701 then (some ((t21004 ++ [(⟨x2, t21007, x1, ([] : List (S53)), ([] : List Int)⟩ : S44)]), (x0.length : Int), 0)) else (none)))))))
def tinderref08_Add.f (k : Nat) (l0 : List (S44)) (a1 : Int) (a2 : ByteArray) (l3 : List Int) : Option ((List (S44)) × Int × Int) := (tinderref08_wrong.f k l0 a1).bind fun t21001 => (if t21001 = 0 then ((tinderref05_Named.f k a2).bind fun t21002 => (if t21002 = true then (tinderref08_Add.j0 k l0 a1 a2 l3 (decide ((l3.length : Int) > 4))) else (tinderref08_Add.j0 k l0 a1 a2 l3 true))) else (some (([] : List (S44)), 0, t21001)))

end Go.Proofs.YtnalcjgefbelnaaDoor.Q
end
section
set_option linter.unusedSimpArgs false
set_option linter.unusedVariables false
namespace Go.Proofs.YtnalcjgefbelnaaDoor.Q
open Go.RowKit Go.Proofs.YtnalcjgefbelnaaDoorW.PrintWords Go.Proofs.YtnalcjgefbelnaaDoorW.PrintLast
/-- Lists short enough for a copy to be made. -/
def GoodN (x : S44) : Prop := x.f1.length < 35184372088832 ∧ x.f4.length < 35184372088832 ∧ x.f3.length < 3518437208883 ∧ ∀ p ∈ x.f3, p.f1.length < 140737488355328
def GoodT (t : List S44) : Prop := t.length < 1466015503701 ∧ ∀ x ∈ t, GoodN x
theorem goodN_len {x : S44} (h : GoodN x) : LenN 35184372088832 x := ⟨by have := h.1; omega, by have := h.2.1; omega, by have := h.2.2.1; omega⟩
theorem short_of {t : List S44} (h : GoodT t) : shortT t = true := by
  simp only [shortT, shortN, shortP, Bool.and_eq_true, decide_eq_true_eq, List.all_eq_true]
  refine ⟨by have := h.1; omega, fun x hx => ?_⟩
  obtain ⟨h1, h2, h3, h4⟩ := h.2 x hx
  exact ⟨by omega, by omega, by omega, h4⟩
theorem rd44_mem (t : List S44) (i : Int) (h0 : 0 ≤ i) (h1 : i < t.length) : rd_T44 t i ∈ t := by
  unfold rd_T44
  rw [List.getD_eq_getElem?_getD, List.getElem?_eq_getElem (show i.toNat < t.length by omega)]
  exact List.getElem_mem _
theorem rd53_mem (t : List S53) (i : Int) (h0 : 0 ≤ i) (h1 : i < t.length) : rd_T53 t i ∈ t := by
  unfold rd_T53
  rw [List.getD_eq_getElem?_getD, List.getElem?_eq_getElem (show i.toNat < t.length by omega)]
  exact List.getElem_mem _
theorem check_some (t : List S44) (n : Int) : ∃ e, tree_check.f t n = some e := by
  unfold tree_check.f tree_Formed.f
  rw [Option.bind_some]
  split
  · split
    · exact ⟨_, rfl⟩
    · split <;> exact ⟨_, rfl⟩
  · exact ⟨_, rfl⟩
theorem check_ok {t : List S44} {n : Int} (hF : treeF t = true) (h0 : 0 ≤ n) (h1 : n < t.length) : tree_check.f t n = some 0 := by
  unfold tree_check.f tree_Formed.f
  rw [Option.bind_some, if_pos hF, if_neg (by omega), if_neg (by omega)]
theorem check_form {l0 : List S44} {a1 : Int} (h : tree_check.f l0 a1 = some 0) : treeF l0 = true := by
  unfold tree_check.f tree_Formed.f at h
  rw [Option.bind_some] at h
  split at h
  · assumption
  · exact absurd h (by decide)
theorem form_len {t : List S44} (h : treeF t = true) : 1 ≤ t.length ∧ t.length ≤ 32 := by
  unfold treeF at h
  simp only [Bool.and_eq_true, Bool.not_eq_true', beq_eq_false_iff_ne, decide_eq_false_iff_not] at h
  omega
theorem form_node {t : List S44} (h : treeF t = true) (i : Nat) (hi : i < t.length) : nodeOk t i = true := by
  unfold treeF at h
  simp only [Bool.and_eq_true] at h
  exact List.all_eq_true.1 h.2.2 i (List.mem_range.2 hi)
theorem form_of {t : List S44} (h1 : 1 ≤ t.length) (h2 : t.length ≤ 32) (h : ∀ i, i < t.length → nodeOk t i = true) : treeF t = true := by
  unfold treeF
  simp only [Bool.and_eq_true, Bool.not_eq_true', beq_eq_false_iff_ne, decide_eq_false_iff_not]
  exact ⟨by omega, by omega, List.all_eq_true.2 fun i hi => h i (List.mem_range.1 hi)⟩
theorem node_props {t : List S44} (hF : treeF t = true) (i : Int) (h0 : 0 ≤ i) (hi : i < t.length) : propsF (rd_T44 t i).f3 = true := by
  have h1 := form_node hF i.toNat (by omega)
  unfold nodeOk at h1
  simp only [Bool.and_eq_true] at h1
  exact h1.1.2
/-- What Add answers. -/
def addF (t : List S44) (n : Int) (s : ByteArray) (u : List Int) : List S44 × Int × Int := if namedF s = true then (if (4 : Int) < (u.length : Int) then ([], 0, 1) else if t.any (isN n s u) = true then ([], 0, 20) else if (t.length : Int) = 32 then ([], 0, 22) else (t ++ [(⟨s, u, n, [], []⟩ : S44)], (t.length : Int), 0)) else ([], 0, 1)
end Go.Proofs.YtnalcjgefbelnaaDoor.Q
end
section
set_option linter.unusedSimpArgs false
set_option linter.unusedVariables false
namespace Go.Proofs.YtnalcjgefbelnaaDoor.Q
open Go.RowKit Go.Proofs.YtnalcjgefbelnaaDoorW.PrintWords Go.Proofs.YtnalcjgefbelnaaDoorW.PrintLast Go.Proofs.YtnalcjgefbelnaaDoorW.PrintMore
attribute [local go_sem] max2_int min2_int max_two min_two max_three min_three max_four min_four
def plcF (l0 : List S44) (a1 : Int) (a2 : ByteArray) : Int := idxP (isP a2) (rd_T44 l0 a1).f3
def tree_place.f (l0 : List S44) (a1 : Int) (a2 : ByteArray) : Option (Int × Int) := (tree_check.f l0 a1).bind fun e => if e = 0 then (if plcF l0 a1 a2 < 0 then some (0, 2) else some (plcF l0 a1 a2, 0)) else some (0, e)
theorem check_in {l0 : List S44} {a1 : Int} (h : tree_check.f l0 a1 = some 0) : 0 ≤ a1 ∧ a1 < l0.length := by
  unfold tree_check.f tree_Formed.f at h
  rw [Option.bind_some] at h
  split at h
  · split at h
    · exact absurd h (by decide)
    · split at h
      · exact absurd h (by decide)
      · omega
  · exact absurd h (by decide)
set_option maxHeartbeats 8000000 in
set_option maxRecDepth 100000 in
theorem tree_place.calls (A0 : Option Addr) (c0 : Nat) (l0 : List S44) (a1 : Int) (a2 : ByteArray) (r1 r2 : Int) (w : World) (hr0 : Kd.C k44 w A0 l0.length l0) (hc0 : l0.length ≤ c0) (h : tree_place.f l0 a1 a2 = some (r1, r2)) :
    Calls Tryd.prog 64 #[.slice A0 l0.length c0, .int .i64 a1, .string a2] w fun e w' => e = .returned (.tuple #[.int .i64 r1, .int .i64 r2]) ∧ Below w.heap.size w w' := by
  have hu44 := Tryd.underlying44
  unfold tree_place.f at h
  obtain ⟨e0, A1, H⟩ := Option.bind_eq_some_iff.mp h
  clear h
  have HCK := Aside0.mk (tree_check.calls A0 c0 l0 a1 e0 w hr0 hc0 A1)
  have mixed : Tryd.prog.follows Departure.mixedOrders = true := by kernel_rfl
  by_cases he : e0 = 0
  · subst he
    rw [if_pos rfl] at H
    obtain ⟨h0, h1⟩ := check_in A1
    obtain ⟨ad, B1, b1, B3, b3, B4, b4, eA, _, _, _, _, _, _, _, hl3, hg3, _, _⟩ := at_T44 hr0 a1 h0 h1
    cases eA
    have HAT := Aside0.mk (fun (W : World) (hb : Below w.heap.size w W) => at_T44 (Kd.C_below hr0 hb) a1 h0 h1)
    have p1 : (0 ≤ a1) = True := eq_true h0
    have p2 : (a1 < (l0.length : Int)) = True := eq_true h1
    have HR0 := Aside0.mk hr0
    clear A1 hg3 hl3 hc0
    go_enter Tryd.func64, Tryd.ntmps64
    go_wp2_with (first
      | (go_at_call 53; refine HCK.out.mono ?_; rintro e w1 ⟨rfl, hb⟩; have HB := Aside0.mk hb; clear hb))
    obtain ⟨ad', B1, b1, B3, b3, B4, b4, eA, hx0, hx1, hx2, hx3, hx4, _, _, hl3, hg3, _, _⟩ := HAT.out _ HB.out
    cases eA
    have HIX := Aside0.mk (fun (gb : Nat) (W : World) (hb : Below w1.heap.size w1 W) (hh : W.heap[gb]? = some (.cells #[.string a2] 9 (0, 0))) => indexProp_calls a2 gb B3 b3 (rd_T44 l0 a1).f3 W (Kd.C_below hg3 hb) hh)
    have HPL := Aside0.mk (show plcF l0 a1 a2 = idxP (isP a2) (rd_T44 l0 a1).f3 from rfl)
    clear hr0
    refine start_ (n := 9) (S := fun w' => w'.cell? ⟨(ad.add (a1.toNat * 5)).block, (ad.add (a1.toNat * 5)).off + 3, none⟩ = some (.slice B3 (rd_T44 l0 a1).f3.length b3) ∧ Below w1.heap.size w1 w') (ds := []) #[false, false, false, false, false, false, false, false, false] (by kernel_rfl) rfl rfl ⟨hx3, below_drew1 (Below.refl w1.heap.size w1)⟩ (fun hHeld => ?_)
    refine pure_ (i := 0) (N := some 16) (v := ?_) (a' := ?_) #[true, false, false, false, false, false, false, false, false] rfl rfl (by kernel_rfl) (fun _ _ _ h => h) (Or.inl ⟨by rfl, ?_⟩) ?_ ?_
    rotate_left
    · intro w'
      go_simp
      with_reducible rfl
    rotate_left
    · simp only [Act.put, List.setIfInBounds_toArray, List.set_cons_zero, List.set_cons_succ]
      rfl
    refine pure_ (i := 1) (N := some 17) (v := ?_) (a' := ?_) #[true, true, false, false, false, false, false, false, false] rfl rfl (by kernel_rfl) (fun _ _ _ h => h) (Or.inl ⟨by rfl, ?_⟩) ?_ ?_
    rotate_left
    · intro w'
      go_simp
      with_reducible rfl
    rotate_left
    · simp only [Act.put, List.setIfInBounds_toArray, List.set_cons_zero, List.set_cons_succ]
      rfl
    refine pure_ (i := 2) (N := some 18) (v := ?_) (a' := ?_) #[true, true, true, false, false, false, false, false, false] rfl rfl (by kernel_rfl) (fun _ _ _ h => h) (Or.inl ⟨by rfl, ?_⟩) ?_ ?_
    rotate_left
    · intro w'
      go_simp
      with_reducible rfl
    rotate_left
    · simp only [Act.put, List.setIfInBounds_toArray, List.set_cons_zero, List.set_cons_succ]
      rfl
    refine pure_ (i := 3) (N := some 19) (v := ?_) (a' := ?_) #[true, true, true, true, false, false, false, false, false] rfl rfl (by kernel_rfl) (fun _ _ _ h => h) (Or.inl ⟨by rfl, ?_⟩) ?_ ?_
    rotate_left
    · intro w'
      go_simp
      with_reducible rfl
    rotate_left
    · simp only [Act.put, List.setIfInBounds_toArray, List.set_cons_zero, List.set_cons_succ]
      rfl
    refine pure_ (i := 5) (N := some 21) (v := ?_) (a' := ?_) #[true, true, true, true, false, true, false, false, false] rfl rfl (by kernel_rfl) (fun _ _ _ h => h) (Or.inl ⟨by rfl, ?_⟩) ?_ ?_
    rotate_left
    · intro w'
      go_simp
      with_reducible rfl
    rotate_left
    · simp only [Act.put, List.setIfInBounds_toArray, List.set_cons_zero, List.set_cons_succ]
      rfl
    refine take_ (i := 4) (N := some 20) (v := (.slice B3 (rd_T44 l0 a1).f3.length b3)) (a' := ?_) #[true, true, true, true, true, true, false, false, false] rfl rfl (by kernel_rfl) (fun _ _ _ h => h) (Or.inl ⟨by rfl, ?_⟩) hHeld ?_ ?_
    rotate_left
    rotate_left
    · simp only [Act.put, List.setIfInBounds_toArray, List.set_cons_zero, List.set_cons_succ]
      rfl
    rotate_left
    · rintro w' ⟨s1, s5⟩
      go_simp
    refine one_ (i := 6) (N := some 22) #[true, true, true, true, true, true, true, false, false] rfl rfl (by kernel_rfl) (by decide) (fun K hK => ?_)
    refine goes_ Tryd.func67 (by kernel_rfl) rfl #[.string a2] (by rfl) rfl rfl (by first | rfl | (simp only [List.map_toArray, List.map_cons, List.map_nil]; rfl)) ?_
    refine (namedP_calls a2 _).mono ?_
    rintro e w3 ⟨gb, rfl, hgb, hh, hb⟩
    have HH := Aside0.mk hh
    refine ⟨_, rfl, hK.out _ _ ⟨(hb.cell (World.block_lt_of_cell? _ _ hHeld.1)).trans hHeld.1, below_step hHeld.2 hb⟩ (fun hHeld => ?_)⟩
    clear hgb hh hb
    clear hK K
    simp only [Act.put, List.setIfInBounds_toArray, List.set_cons_zero, List.set_cons_succ]
    refine one_ (i := 7) (N := some 23) #[true, true, true, true, true, true, true, true, false] rfl rfl (by kernel_rfl) (by decide) (fun K hK => ?_)
    refine goes_ Tryd.func77 (by kernel_rfl) rfl #[.slice B3 (rd_T44 l0 a1).f3.length b3, .func (.func 78) #[] #[.pointer (some ⟨gb, 0, none⟩)]] (by rfl) rfl rfl (by first | rfl | (simp only [List.map_toArray, List.map_cons, List.map_nil]; rfl)) ?_
    refine (HIX.out gb _ hHeld.2 HH.out).mono ?_
    rintro e w4 ⟨rfl, hb⟩
    refine ⟨_, rfl, hK.out _ _ ⟨(hb.cell (World.block_lt_of_cell? _ _ hHeld.1)).trans hHeld.1, below_step hHeld.2 hb⟩ (fun hHeld => ?_)⟩
    clear hb
    clear hK K
    simp only [Act.put, List.setIfInBounds_toArray, List.set_cons_zero, List.set_cons_succ]
    refine pure_ (i := 8) (N := some 9) (v := ?_) (a' := ?_) #[true, true, true, true, true, true, true, true, true] rfl rfl (by kernel_rfl) (fun _ _ _ h => h) (Or.inl ⟨by rfl, ?_⟩) ?_ ?_
    rotate_left
    · intro w'
      go_simp
      with_reducible rfl
    rotate_left
    · simp only [Act.put, List.setIfInBounds_toArray, List.set_cons_zero, List.set_cons_succ]
      rfl
    refine done_ (n := 0) (by kernel_rfl) ?_
    by_cases hk : plcF l0 a1 a2 < 0
    · rw [if_pos hk] at H
      simp only [Option.some.injEq, Prod.mk.injEq] at H
      obtain ⟨rfl, rfl⟩ := H
      have dk : decide (plcF l0 a1 a2 < 0) = true := decide_eq_true hk
      rw [HPL.out] at dk
      clear hk
      go_wp2
      go_ret2
      exact ⟨rfl, below_step HB.out hHeld.2⟩
    · rw [if_neg hk] at H
      simp only [Option.some.injEq, Prod.mk.injEq] at H
      obtain ⟨rfl, rfl⟩ := H
      have dk : decide (plcF l0 a1 a2 < 0) = false := decide_eq_false hk
      rw [HPL.out] at dk
      clear hk
      go_wp2
      go_ret2
      exact ⟨by rw [HPL.out]; rfl, below_step HB.out hHeld.2⟩
  · rw [if_neg he] at H
    simp only [Option.some.injEq, Prod.mk.injEq] at H
    obtain ⟨rfl, rfl⟩ := H
    have heb : (e0 == 0) = false := beq_eq_false_iff_ne.2 he
    have heb2 : (e0 != 0) = true := bne_iff_ne.2 he
    clear hr0 hc0 A1 he
    go_enter Tryd.func64, Tryd.ntmps64
    go_wp2_with (first
      | (go_at_call 53; refine HCK.out.mono ?_; rintro e w1 ⟨rfl, hb⟩; have HB := Aside0.mk hb; clear hb))
    go_ret2
    exact ⟨rfl, HB.out⟩
end Go.Proofs.YtnalcjgefbelnaaDoor.Q
end
section
namespace Go.Proofs
open Go.Shelf
def Tryd.lays156_ren : Go.Shelf.Ren := ⟨fun | 156 => 83 | 165 => 91 | 166 => 71 | 169 => 74 | 240 => 81 | 241 => 97 | 276 => 88 | 277 => 104 | n => n, fun | 31 => 107 | 9 => 9 | 3 => 3 | 4 => 4 | 0 => 0 | 20 => 20 | 72 => 94 | 76 => 98 | 70 => 92 | 37 => 28 | 75 => 97 | 127 => 110 | 164 => 113 | 5 => 5 | 80 => 102 | n => n, fun | n => n⟩
theorem Tryd.lays156 : Go.Proofs.Lays.n156 Tryd.prog Tryd.lays156_ren := {
  mixed := by kernel_rfl
  f156 := Tryd.func83.trans (congrArg some (by kernel_rfl))
  f165 := Tryd.func91.trans (congrArg some (by kernel_rfl))
  f166 := Tryd.func71.trans (congrArg some (by kernel_rfl))
  f169 := Tryd.func74.trans (congrArg some (by kernel_rfl))
  f240 := Tryd.func81.trans (congrArg some (by kernel_rfl))
  f241 := Tryd.func97.trans (congrArg some (by kernel_rfl))
  f276 := Tryd.func88.trans (congrArg some (by kernel_rfl))
  f277 := Tryd.func104.trans (congrArg some (by kernel_rfl))
  t0 := Tryd.underlying0
  a0 := Tryd.isAgg0
  z0 := Tryd.sizeOf0
  v0 := Tryd.zeroValue0
  t3 := Tryd.underlying3
  a3 := Tryd.isAgg3
  z3 := Tryd.sizeOf3
  v3 := Tryd.zeroValue3
  t4 := Tryd.underlying4
  a4 := Tryd.isAgg4
  z4 := Tryd.sizeOf4
  v4 := Tryd.zeroValue4
  t9 := Tryd.underlying9
  a9 := Tryd.isAgg9
  z9 := Tryd.sizeOf9
  v9 := Tryd.zeroValue9
  t20 := Tryd.underlying20
  a20 := Tryd.isAgg20
  z20 := Tryd.sizeOf20
  v20 := Tryd.zeroValue20
  t31 := Tryd.underlying107
  a31 := Tryd.isAgg107
  z31 := Tryd.sizeOf107
  v31 := Tryd.zeroValue107
  t37 := Tryd.underlying28
  a37 := Tryd.isAgg28
  z37 := Tryd.sizeOf28
  v37 := Tryd.zeroValue28
  t70 := Tryd.underlying92
  a70 := Tryd.isAgg92
  z70 := Tryd.sizeOf92
  v70 := Tryd.zeroValue92
  t72 := Tryd.underlying94
  a72 := Tryd.isAgg94
  z72 := Tryd.sizeOf94
  v72 := Tryd.zeroValue94
  t75 := Tryd.underlying97
  a75 := Tryd.isAgg97
  z75 := Tryd.sizeOf97
  v75 := Tryd.zeroValue97
  t76 := Tryd.underlying98
  a76 := Tryd.isAgg98
  z76 := Tryd.sizeOf98
  v76 := Tryd.zeroValue98
  t127 := Tryd.underlying110
  a127 := Tryd.isAgg110
  z127 := Tryd.sizeOf110
  v127 := Tryd.zeroValue110
  t164 := Tryd.underlying113
  a164 := Tryd.isAgg113
  z164 := Tryd.sizeOf113
  v164 := Tryd.zeroValue113 }
theorem Tryd.Builder_Extra_156 : Builder.Extra Tryd.prog Tryd.lays156_ren := {
  sizeBuilder := by kernel_rfl
  liesBuilder := by kernel_rfl
  t5 := Tryd.underlying5
  a5 := Tryd.isAgg5
  z5 := Tryd.sizeOf5
  v5 := Tryd.zeroValue5
  infoByte := by kernel_rfl
  cellsByte := by kernel_rfl
  sizeByte := by kernel_rfl
  neB5 := by decide }
open Go.RowKit in
/-- No element: the empty string; the world is as it was. (Whatever the slice's address and capacity: a nil slice too.) (LAID: no walk: one application.) -/
theorem Tryd.strings_Join_none (a : Option Addr) (c : Nat) (sep : ByteArray) (w : World) :
    Calls Tryd.prog 83 #[.slice a 0 c, .string sep] w fun e w' => e = .returned (.string ⟨#[]⟩) ∧ w' = w := Any.strings_Join_none Tryd.lays156 Tryd.Builder_Extra_156 a c sep w
open Go.RowKit in
/-- strings.Join: "Join concatenates the elements of its first argument to create a single string. The separator string sep is placed between elements in the resulting string.": HOWEVER MANY ELEMENTS. Below the heap's end the world is as it was. (LAID: no walk: one application.) -/
theorem Tryd.strings_Join (bk o c : Nat) (xs : List ByteArray) (sep : ByteArray) (w : World) (hcells : ∀ (j : Nat) x, xs[j]? = some x → w.cell? ⟨bk, o + j, none⟩ = some (.string x)) (hbk : bk < w.heap.size) (hN : xs.length ≤ 140737488355328) (hcap : xs.length ≤ c) (hlen : (Lib.join (xs.map (·.data.toList)) sep.data.toList).length ≤ 140737488355328) :
    Calls Tryd.prog 83 #[.slice (some ⟨bk, o, none⟩) xs.length c, .string sep] w fun e w' => e = .returned (.string ⟨(Lib.join (xs.map (·.data.toList)) sep.data.toList).toArray⟩) ∧ Below w.heap.size w w' := Any.strings_Join Tryd.lays156 Tryd.Builder_Extra_156 bk o c xs sep w hcells hbk hN hcap hlen
end Go.Proofs
end
section
set_option linter.unusedSimpArgs false
set_option linter.unusedVariables false
namespace Go.Proofs.YtnalcjgefbelnaaDoor.Q
open Go.RowKit Go.Shelf Go.Proofs.YtnalcjgefbelnaaDoorW.PrintWords Go.Proofs.YtnalcjgefbelnaaDoorW.PrintLast
set_option maxHeartbeats 1000000 in
set_option maxRecDepth 100000 in
theorem copyCheck_used (b : Nat) (w : World) (h0 : w.cell? ⟨b, 0, none⟩ = some (.pointer (some ⟨b, 0, none⟩))) :
    Calls Tryd.prog 81 #[.pointer (some ⟨b, 0, none⟩)] w fun e w' => e = .returned (.tuple #[]) ∧ w' = w := by
  obtain ⟨j, hj, _⟩ := Option.map_eq_some_iff.1 Tryd.Builder_Extra_156.sizeBuilder
  go_enter Tryd.func81, Tryd.ntmps81
  go_wp2
  rw [Lib.run_neq_ptr_same w _ Tryd.underlying92 hj]
  go_wp2
  go_end0
  exact ⟨rfl, rfl⟩
set_option maxHeartbeats 1000000 in
set_option maxRecDepth 100000 in
theorem copyCheck_fresh (b : Nat) (w : World) (h0 : w.cell? ⟨b, 0, none⟩ = some (.pointer none)) (hsh : w.shape? b = some (94, 2)) (hfz : w.frozen? ⟨b, 0, none⟩ = false) :
    Calls Tryd.prog 81 #[.pointer (some ⟨b, 0, none⟩)] w fun e w' => e = .returned (.tuple #[]) ∧ w' = w.setCell ⟨b, 0, none⟩ (.pointer (some ⟨b, 0, none⟩)) := by
  obtain ⟨j, hj, hjs⟩ := Option.map_eq_some_iff.1 Tryd.Builder_Extra_156.sizeBuilder
  go_enter Tryd.func81, Tryd.ntmps81
  go_wp2
  rw [Lib.run_to_unsafe w ⟨b, 0, none⟩ Tryd.underlying92 Tryd.underlying113 hj (by rw [hjs]; decide) hsh (Nat.zero_lt_succ 1)]
  simp only [Result.andThen]
  rw [Oper.upon_value]
  go_wp2
  rw [run_callFunc_extern Tryd.func88 (by kernel_rfl) (by kernel_rfl) (by kernel_rfl) (e := Extern.AbiNoEscape.same) (by kernel_rfl)]
  rw [Lib.run_noEscape]
  simp only [Result.andThen]
  rw [Oper.upon_value]
  go_wp2
  rw [Lib.run_from_unsafe w ⟨b, 0, none⟩ Tryd.underlying113 Tryd.underlying92 hj hsh Tryd.Builder_Extra_156.liesBuilder]
  simp only [Result.andThen]
  rw [Oper.upon_value]
  go_wp2
  go_end0
  exact ⟨rfl, rfl⟩
/-- All blocks of another type than bytes, but b, are as they were. -/
def KeepT (b : Nat) (w w' : World) : Prop := ∀ k cs t fr, k ≠ b → t ≠ 5 → w.heap[k]? = some (.cells cs t fr) → w'.heap[k]? = some (.cells cs t fr)
theorem KeepT.set (b j : Nat) (w : World) (u : Value) : KeepT b w (w.setCell ⟨b, j, none⟩ u) := fun k cs t fr hk _ h => by
  rw [Below.heap_setCell w ⟨b, j, none⟩ u k hk]
  exact h
theorem KeepT.trans {b : Nat} {A B C : World} (h : KeepT b A B) (k : KeepT b B C) : KeepT b A C := fun i cs t fr hi ht e => k i cs t fr hi ht (h i cs t fr hi ht e)
theorem copyCheck_calls (B b : Nat) (bs : List Value) (w : World) (h : Lib.IsBuilder 94 5 B b bs w) :
    Calls Tryd.prog 81 #[.pointer (some ⟨b, 0, none⟩)] w fun e w' => e = .returned (.tuple #[]) ∧ (Lib.BuilderAt 94 5 B b (.pointer (some ⟨b, 0, none⟩)) bs w' ∧ Below B w w' ∧ KeepT b w w') := by
  rcases h with h | h
  · refine (copyCheck_fresh b w h.cell0 h.shape h.frozen0).mono ?_
    rintro e w' ⟨rfl, rfl⟩
    exact ⟨rfl, h.used _, (Below.refl B w).setCell (p := ⟨b, 0, none⟩) h.1 _, KeepT.set _ _ _ _⟩
  · refine (copyCheck_used b w h.cell0).mono ?_
    rintro e w' ⟨rfl, rfl⟩
    exact ⟨rfl, h, Below.refl B _, fun _ _ _ _ _ _ h => h⟩
theorem info5b : (Tryd.prog.info? 5).map (fun i => (i.zero, i.size, i.bytes)) = some (some (.int .u8 0), 1, 1) := by kernel_rfl
set_option maxHeartbeats 2000000 in
set_option maxRecDepth 100000 in
theorem write_calls (B b : Nat) (bs : List Value) (s : ByteArray) (w : World) (h : Lib.IsBuilder 94 5 B b bs w) (hlen : bs.length + s.size ≤ 140737488355328) (hBw : B ≤ w.heap.size) :
    Calls Tryd.prog 71 #[.pointer (some ⟨b, 0, none⟩), .string s] w fun e w' => e = .returned (.tuple #[.int .i64 s.size, .nilIface]) ∧ (Lib.BuilderAt 94 5 B b (.pointer (some ⟨b, 0, none⟩)) (bs ++ Lib.strCells s) w' ∧ Below B w w' ∧ KeepT b w w') := by
  obtain ⟨i0, hi, hz0, hz1, hz2⟩ := info_parts info5b
  have HC := Aside0.mk (copyCheck_calls B b bs w h)
  go_enter Tryd.func71, Tryd.ntmps71
  go_wp2_with (go_at_call 81; refine HC.out.mono ?_)
  rintro e w1 ⟨rfl, h1, hb1, hk1⟩
  obtain ⟨hB, v, hbk, hown, hne⟩ := h1
  have c0 : w1.cell? ⟨b, 0, none⟩ = some (.pointer (some ⟨b, 0, none⟩)) := by rw [Lib.cell_of_heap hbk]; rfl
  have c1 : w1.cell? ⟨b, 1, none⟩ = some v := by rw [Lib.cell_of_heap hbk]; rfl
  go_wp2_with (at_builtin; refine Lib.wpList_append_own_string _ rfl _ _ 28 9 rfl B 5 i0 Tryd.underlying28 Tryd.underlying9 hi hz0 hz1 hz2 _ _ _ rfl hown s rfl ?c3 ?c4 ?c5 ?_)
  case c3 => unfold maxLen; omega
  case c4 => omega
  case c5 => have := hb1.size; omega
  intro v' w2 hown' hgrow _
  have hlt : b < w1.heap.size := by
    rcases Nat.lt_or_ge b w1.heap.size with h' | h'
    · exact h'
    · simp [Array.getElem?_eq_none h'] at hbk
  have hb2 : w2.heap[b]? = some (.cells #[.pointer (some ⟨b, 0, none⟩), v] 94 (0, 0)) := by
    rw [hgrow.block b hlt (fun e => hne e.symm)]
    exact hbk
  have d0 : w2.cell? ⟨b, 0, none⟩ = some (.pointer (some ⟨b, 0, none⟩)) := by rw [Lib.cell_of_heap hb2]; rfl
  have d1 : w2.cell? ⟨b, 1, none⟩ = some v := by rw [Lib.cell_of_heap hb2]; rfl
  have f1 : w2.frozen? ⟨b, 1, none⟩ = false := Lib.frozen_of_heap hb2 1
  obtain ⟨ao, n', cap, rfl⟩ : ∃ ao n' cap, v' = .slice ao n' cap := by
    rcases hown'.2 with ⟨hv, _⟩ | ⟨g, cap, cur, hv, _⟩
    · exact ⟨_, _, _, hv⟩
    · exact ⟨_, _, _, hv⟩
  go_wp2
  go_ret2
  refine ⟨rfl, ?_, ?_, ?_⟩
  · exact Lib.BuilderAt.put (T := 94) (e := 5) hB hb2 (bs' := bs ++ Lib.strCells s) (by simpa [Lib.strCells_length] using hown') (by decide)
  · exact (hb1.grown hgrow (by have := hb1.size; omega) (fun k hk => (hown.lt k hk).1)).setCell (p := ⟨b, 1, none⟩) hB _
  · refine (hk1.trans (fun k cs t fr hk ht e => ?_)).trans (KeepT.set _ _ _ _)
    rw [hgrow.block k (Array.getElem?_eq_some_iff.1 e).1 (fun he => ?_)]
    · exact e
    · rcases hown.2 with ⟨rfl, _⟩ | ⟨g, cap, cur, rfl, _, hh, _⟩
      · simp [Value.ownBlock] at he
      · have : k = g := by simpa [Value.ownBlock] using he
        subst this
        rw [e] at hh
        injection hh with hh
        injection hh with _ h2 _
        exact ht h2
theorem BuilderAt_below {B b : Nat} {p : Value} {bs : List Value} {w w' : World} (h : Lib.BuilderAt 94 5 B b p bs w) (hb : Below w.heap.size w w') : Lib.BuilderAt 94 5 B b p bs w' := by
  have hlt := h.lt
  obtain ⟨hB, v, hbk, hown, hne⟩ := h
  refine ⟨hB, v, (hb.block b hlt).trans hbk, hown.kept (grown_of_below hb none) ?_, hne⟩
  cases hv : v.ownBlock with
  | none => exact .inl rfl
  | some k => exact .inr (by simp)
theorem IsBuilder_below {B b : Nat} {bs : List Value} {w w' : World} (h : Lib.IsBuilder 94 5 B b bs w) (hb : Below w.heap.size w w') : Lib.IsBuilder 94 5 B b bs w' := h.imp (fun h => BuilderAt_below h hb) (fun h => BuilderAt_below h hb)
end Go.Proofs.YtnalcjgefbelnaaDoor.Q
end
section
namespace Go.Proofs.YtnalcjgefbelnaaDoor.Q
open Go.RowKit Go.Proofs.YtnalcjgefbelnaaDoorW.PrintWords Go.Proofs.YtnalcjgefbelnaaDoorW.PrintLast
def joinB (l : List ByteArray) (sep : ByteArray) : ByteArray := ⟨(Lib.join (l.map (·.data.toList)) sep.data.toList).toArray⟩
def strings_Join.f (l : List ByteArray) (sep : ByteArray) : Option ByteArray := if l.length ≤ 140737488355328 ∧ (joinB l sep).size ≤ 140737488355328 then some (joinB l sep) else none
theorem strings_Join.calls (A0 : Option Addr) (c0 : Nat) (l0 : List ByteArray) (a1 : ByteArray) (r : ByteArray) (w : World) (hr0 : Kd.C Kd.string w A0 l0.length l0) (hc0 : l0.length ≤ c0) (h : strings_Join.f l0 a1 = some r) :
    Calls Tryd.prog 83 #[.slice A0 l0.length c0, .string a1] w fun e w' => e = .returned (.string r) ∧ Below w.heap.size w w' := by
  unfold strings_Join.f at h
  split at h
  case isFalse => cases h
  rename_i hs
  obtain rfl := Option.some.inj h
  by_cases h0 : l0.length = 0
  · obtain rfl := List.eq_nil_of_length_eq_zero h0
    refine (Tryd.strings_Join_none A0 c0 a1 w).mono ?_
    rintro e w' ⟨rfl, rfl⟩
    exact ⟨rfl, Below.refl _ _⟩
  · obtain ⟨ad, rfl, hx⟩ := (Kd.reads_of_C (enc := Value.string) (d := ByteArray.empty) (h1 := fun _ => rfl) hr0).2.2 (by omega)
    have h00 := hx 0 (by omega)
    obtain ⟨bk, o, sp⟩ := ad
    have hsp : sp = none := by
      cases sp with
      | none => rfl
      | some y =>
        rw [show (⟨bk, o, some y⟩ : Addr).add 0 = ⟨bk, o, some y⟩ from rfl] at h00
        unfold World.cell? at h00
        split at h00 <;> simp at h00
    subst hsp
    have hb := World.block_lt_of_cell? w _ h00
    refine (Tryd.strings_Join bk o c0 l0 a1 w (fun j x hj => ?_) hb hs.1 hc0 (by have := hs.2; unfold joinB at this; simpa [ByteArray.size] using this)).mono ?_
    · have hjl := (List.getElem?_eq_some_iff.1 hj).1
      have h2 := hx j hjl
      rw [List.getD_eq_getElem?_getD, hj, Option.getD_some] at h2
      rw [← h2]
      congr 1
      unfold Addr.add
      split
      · rename_i h; subst h; rfl
      · rfl
    · rintro e w' ⟨rfl, hb⟩
      exact ⟨rfl, hb⟩
end Go.Proofs.YtnalcjgefbelnaaDoor.Q
end
section
namespace Go.Proofs.YtnalcjgefbelnaaDoor.Q
open Go.RowKit Go.Proofs.YtnalcjgefbelnaaDoorW.PrintWords Go.Proofs.YtnalcjgefbelnaaDoorW.PrintLast Go.Proofs.YtnalcjgefbelnaaDoorW.PrintMore
set_option linter.unusedVariables false
set_option linter.unusedSimpArgs false

attribute [local go_sem] max2_int min2_int max_two min_two max_three min_three max_four min_four
/-! ### digit_fit: function 89 -/
def digit_fit.f (a0 : Int) : Option (Bool) := if a0 ≥ 2 then (some (decide (a0 ≤ 36))) else (some false)
set_option maxHeartbeats 8000000 in
set_option maxRecDepth 100000 in
theorem digit_fit.calls (a0 : Int) (r : Bool) (w : World) (h : digit_fit.f a0 = some r) :
    Calls Tryd.prog 89 #[.int .u32 a0] w fun e w' => e = .returned (.bool r) ∧ Drawn0 w w' := by
  have H : (if a0 ≥ 2 then (some (decide (a0 ≤ 36))) else (some false)) = some r := h
  clear h
  by_cases c2 : a0 ≥ 2
  · rw [if_pos c2] at H
    have c2b0 : decide (2 ≤ a0) = true := decide_eq_true c2
    clear c2
    obtain rfl := Option.some.inj H
    go_enter Tryd.func89, Tryd.ntmps89
    go_wp2
    go_ret
    exact ⟨by first | rfl | (simp; done) | (simp [*]; done), by repeat (first | exact Drawn0.refl _ | apply Drawn0.step)⟩
  · rw [if_neg c2] at H
    have c2b0 : decide (2 ≤ a0) = false := decide_eq_false c2
    clear c2
    obtain rfl := Option.some.inj H
    go_enter Tryd.func89, Tryd.ntmps89
    go_wp2
    go_ret
    exact ⟨by first | rfl | (simp; done) | (simp [*]; done), by repeat (first | exact Drawn0.refl _ | apply Drawn0.step)⟩

end Go.Proofs.YtnalcjgefbelnaaDoor.Q
end
section
namespace Go.Proofs.YtnalcjgefbelnaaDoor.Q
open Go.RowKit Go.Proofs.YtnalcjgefbelnaaDoorW.PrintWords Go.Proofs.YtnalcjgefbelnaaDoorW.PrintLast Go.Proofs.YtnalcjgefbelnaaDoorW.PrintMore
set_option linter.unusedVariables false
set_option linter.unusedSimpArgs false

attribute [local go_sem] max2_int min2_int max_two min_two max_three min_three max_four min_four
/-! ### tinderref02_Small: function 98 -/
def tinderref02_Small.f (a0 : Int) : Option (Int) := if a0 ≥ 65 then (if a0 ≤ 90 then (some ((a0 + 32) % 256)) else (some a0)) else (some a0)

end Go.Proofs.YtnalcjgefbelnaaDoor.Q
end
section
namespace Go.Proofs.YtnalcjgefbelnaaDoor.Q
open Go.RowKit Go.Proofs.YtnalcjgefbelnaaDoorW.PrintWords Go.Proofs.YtnalcjgefbelnaaDoorW.PrintLast Go.Proofs.YtnalcjgefbelnaaDoorW.PrintMore
set_option linter.unusedVariables false
set_option linter.unusedSimpArgs false

attribute [local go_sem] max2_int min2_int max_two min_two max_three min_three max_four min_four
/-! ### tinderref02_Value: function 92 -/
mutual
def tinderref02_Value.j0 : Nat → Int → Int → Bool → Option (Int × Bool)
  | 0, _, _, _ => none
  | k + 1, x0, x1, x12 => if x12 = true then (some (0, false)) else (tinderref02_Value.l0 k x0 x1 0)
def tinderref02_Value.l0 : Nat → Int → Int → Int → Option (Int × Bool)
  | 0, _, _, _ => none
  | k + 1, x0, x1, x6 => if x6 < (wrap64 (x1)) then (if 0 ≤ x6 then (if x6 < 36 then ((tinderref02_Small.f x0).bind fun t93001 => (if (bt (⟨#[48, 49, 50, 51, 52, 53, 54, 55, 56, 57, 97, 98, 99, 100, 101, 102, 103, 104, 105, 106, 107, 108, 109, 110, 111, 112, 113, 114, 115, 116, 117, 118, 119, 120, 121, 122]⟩ : ByteArray) x6) = t93001 then (some ((x6) % 4294967296, true)) else (tinderref02_Value.l0 k x0 x1 (wrap64 (x6 + 1))))) else (none)) else (none)) else (some (0, false))
end
def tinderref02_Value.f (k : Nat) (a0 : Int) (a1 : Int) : Option (Int × Bool) := if a1 < 2 then (tinderref02_Value.j0 k a0 a1 true) else (tinderref02_Value.j0 k a0 a1 (decide (a1 > 36)))

end Go.Proofs.YtnalcjgefbelnaaDoor.Q
end
section
namespace Go.Proofs.YtnalcjgefbelnaaDoor.Q
open Go.RowKit Go.Proofs.YtnalcjgefbelnaaDoorW.PrintWords Go.Proofs.YtnalcjgefbelnaaDoorW.PrintLast Go.Proofs.YtnalcjgefbelnaaDoorW.PrintMore
set_option linter.unusedVariables false
set_option linter.unusedSimpArgs false

attribute [local go_sem] max2_int min2_int max_two min_two max_three min_three max_four min_four
/-! ### tinderref02_Parse: function 85 -/
mutual
def tinderref02_Parse.j0 : Nat → ByteArray → Int → Bool → Option (Int × Int)
  | 0, _, _, _ => none
  | k + 1, x0, x1, x17 => if x17 = true then (some (0, 1)) else (if (x0.size : Int) > 0 then (if 0 < (x0.size : Int) then (tinderref02_Parse.j1 k x0 x1 ((bt x0 0) == 45)) else (none)) else (tinderref02_Parse.j1 k x0 x1 false))
def tinderref02_Parse.j1 : Nat → ByteArray → Int → Bool → Option (Int × Int)
  | 0, _, _, _ => none
  | k + 1, x0, x1, x6 => if x6 = true then (if 1 ≤ (x0.size : Int) then (tinderref02_Parse.j2 k (x0.extract 1 x0.size) x1 x6) else (none)) else (tinderref02_Parse.j2 k x0 x1 x6)
def tinderref02_Parse.j2 : Nat → ByteArray → Int → Bool → Option (Int × Int)
  | 0, _, _, _ => none
  | k + 1, x0, x1, x6 => if (x0.size : Int) = 0 then (some (0, 15)) else (tinderref02_Parse.l0 k x0 x1 x6 0 false 0)
def tinderref02_Parse.l0 : Nat → ByteArray → Int → Bool → Int → Bool → Int → Option (Int × Int)
  | 0, _, _, _, _, _, _ => none
  | k + 1, x0, x1, x6, x7, x8, x9 => if x9 < (x0.size : Int) then (if 0 ≤ x9 then ((tinderref02_Value.f k (bt x0 x9) x1).bind fun bt86001 => (if bt86001.2 = true then (if x8 = true then (tinderref02_Parse.l0 k x0 x1 x6 x7 x8 (wrap64 (x9 + 1))) else (tinderref02_Parse.l0 k x0 x1 x6 (IntKind.u64.wrap ((IntKind.u64.wrap (x7 * (IntKind.u64.wrap (x1)))) + (IntKind.u64.wrap (bt86001.1)))) (decide ((IntKind.u64.wrap ((IntKind.u64.wrap (x7 * (IntKind.u64.wrap (x1)))) + (IntKind.u64.wrap (bt86001.1)))) ≥ 4294967296)) (wrap64 (x9 + 1)))) else (some (0, 15)))) else (none)) else (if x8 = true then (some (0, 4)) else (if x6 = true then (some ((Int.tmod (IntKind.u64.wrap (4294967296 - x7)) 4294967296) % 4294967296, 0)) else (some ((x7) % 4294967296, 0))))
end
def tinderref02_Parse.f (k : Nat) (a0 : ByteArray) (a1 : Int) : Option (Int × Int) := if a1 < 2 then (tinderref02_Parse.j0 k a0 a1 true) else (tinderref02_Parse.j0 k a0 a1 (decide (a1 > 36)))

end Go.Proofs.YtnalcjgefbelnaaDoor.Q
end
section
namespace Go.Proofs.YtnalcjgefbelnaaDoor.Q
open Go.RowKit Go.Proofs.YtnalcjgefbelnaaDoorW.PrintWords Go.Proofs.YtnalcjgefbelnaaDoorW.PrintLast
/-- The place of a byte among all digits; 255: none. -/
def numF (c : Int) : Int := if 48 ≤ c ∧ c ≤ 57 then c - 48 else if 97 ≤ c ∧ c ≤ 122 then c - 87 else if 65 ≤ c ∧ c ≤ 90 then c - 55 else 255
def valF (c b : Int) : Int × Bool := if 2 ≤ b ∧ b ≤ 36 ∧ numF c < b then (numF c, true) else (0, false)
def smallF (c : Int) : Int := if 65 ≤ c ∧ c ≤ 90 then c + 32 else c
def digitsB : ByteArray := ⟨#[48, 49, 50, 51, 52, 53, 54, 55, 56, 57, 97, 98, 99, 100, 101, 102, 103, 104, 105, 106, 107, 108, 109, 110, 111, 112, 113, 114, 115, 116, 117, 118, 119, 120, 121, 122]⟩
theorem digits_all : ((List.range 36).all fun (j : Nat) => bt digitsB (j : Int) == if j < 10 then (j : Int) + 48 else (j : Int) + 87) = true := by kernel_rfl
theorem digits_at (i : Int) (h : 0 ≤ i ∧ i < 36) : bt digitsB i = if i < 10 then i + 48 else i + 87 := by
  have := List.all_eq_true.1 digits_all i.toNat (List.mem_range.2 (by omega))
  rw [beq_iff_eq] at this
  rw [show ((i.toNat : Nat) : Int) = i by omega] at this
  rw [this]
  by_cases h1 : i < 10
  · rw [if_pos h1, if_pos (by omega)]
  · rw [if_neg h1, if_neg (by omega)]
/-- A text's digits as a number; the mark: it is too great; none: a byte is no digit. -/
def parL (b : Int) : List Int → Int → Bool → Option (Int × Bool)
  | [], n, g => some (n, g)
  | c :: l, n, g => if (valF c b).2 = true then (if g = true then parL b l n true else parL b l (n * b + (valF c b).1) (decide (n * b + (valF c b).1 ≥ 4294967296))) else none
def resF (neg : Bool) : Option (Int × Bool) → Int × Int
  | none => (0, 15)
  | some (n, g) => if g = true then (0, 4) else (if neg = true then ((4294967296 - n) % 4294967296, 0) else (n, 0))
theorem wrap_u64_id (n : Int) (h0 : 0 ≤ n) (h1 : n < 18446744073709551616) : IntKind.u64.wrap n = n := by rw [IntKind.wrap_u64]; omega
/-- A text as a number in a base. -/
def parF (s : ByteArray) (b : Int) : Int × Int :=
  if 2 ≤ b ∧ b ≤ 36 then
    (if 0 < s.size ∧ bt s 0 = 45 then (if s.size = 1 then (0, 15) else resF true (parL b (bytesOf (s.extract 1 s.size)) 0 false))
     else (if s.size = 0 then (0, 15) else resF false (parL b (bytesOf s) 0 false)))
  else (0, 1)
end Go.Proofs.YtnalcjgefbelnaaDoor.Q
end
section
namespace Go.Proofs.YtnalcjgefbelnaaDoor.Q
open Go.RowKit Go.Proofs.YtnalcjgefbelnaaDoorW.PrintWords Go.Proofs.YtnalcjgefbelnaaDoorW.PrintLast Go.Proofs.YtnalcjgefbelnaaDoorW.PrintMore
def chN (v : Nat) : Nat := if v < 10 then 48 + v else 87 + v
def showL (b u : Nat) : List UInt8 := if _h : u < b ∨ b < 2 then [UInt8.ofNat (chN u)] else showL b (u / b) ++ [UInt8.ofNat (chN (u % b))]
termination_by u
decreasing_by exact Nat.div_lt_self (by omega) (by omega)
theorem showL_small {b u : Nat} (h : u < b) : showL b u = [UInt8.ofNat (chN u)] := by rw [showL, dif_pos (.inl h)]
theorem showL_big {b u : Nat} (hb : 2 ≤ b) (h : b ≤ u) : showL b u = showL b (u / b) ++ [UInt8.ofNat (chN (u % b))] := by rw [showL, dif_neg (by omega)]
theorem showL_len (b : Nat) (hb : 2 ≤ b) (k : Nat) : ∀ u : Nat, u < 2 ^ (k + 1) → (showL b u).length ≤ k + 1 := by
  induction k with
  | zero =>
    intro u hu
    rw [showL_small (by omega)]
    simp
  | succ k ih =>
    intro u hu
    by_cases h : u < b
    · rw [showL_small h]; simp
    · rw [showL_big hb (by omega), List.length_append]
      have h1 : u / b ≤ u / 2 := Nat.div_le_div_left hb (by omega)
      have h2 : u / 2 < 2 ^ (k + 1) := by
        rw [Nat.pow_succ] at hu
        omega
      have := ih (u / b) (by omega)
      simp
      omega
theorem showL_pos (b u : Nat) : 1 ≤ (showL b u).length := by
  rw [showL]
  split
  · simp
  · rw [List.length_append]; simp
theorem showL_one {b u : Nat} (hb : 2 ≤ b) (h : (showL b u).length = 1) : u < b := by
  rcases Nat.lt_or_ge u b with h1 | h1
  · exact h1
  · rw [showL_big hb h1, List.length_append] at h
    have := showL_pos b (u / b)
    rw [List.length_singleton] at h
    omega
theorem showL_more {b u k : Nat} (hb : 2 ≤ b) (h : (showL b u).length = k + 1 + 1) : b ≤ u ∧ (showL b (u / b)).length = k + 1 := by
  rcases Nat.lt_or_ge u b with h1 | h1
  · rw [showL_small h1] at h
    simp at h
  · refine ⟨h1, ?_⟩
    rw [showL_big hb h1, List.length_append] at h
    simpa using h
def showI (b u : Int) : List Int := (showL b.toNat u.toNat).map fun c => (c.toNat : Int)
def chI (v : Int) : Int := if v < 10 then v + 48 else v + 87
theorem ch_eq (v : Nat) (h : v < 36) : ((UInt8.ofNat (chN v)).toNat : Int) = chI v := by
  unfold chN chI
  by_cases h1 : v < 10
  · rw [if_pos h1, if_pos (by omega), UInt8.toNat_ofNat']
    omega
  · rw [if_neg h1, if_neg (by omega), UInt8.toNat_ofNat']
    omega
theorem showI_small {b u : Int} (h0 : 0 ≤ u) (h : u < b) (hb : b ≤ 36) : showI b u = [chI u] := by
  unfold showI
  rw [showL_small (by omega), List.map_singleton, ch_eq _ (by omega), Int.toNat_of_nonneg h0]
theorem showI_big {b u : Int} (hb : 2 ≤ b) (hb2 : b ≤ 36) (h : b ≤ u) : showI b u = showI b (u / b) ++ [chI (u % b)] := by
  unfold showI
  have e1 : (u / b).toNat = u.toNat / b.toNat := by
    obtain ⟨n, rfl⟩ := Int.eq_ofNat_of_zero_le (show 0 ≤ u by omega)
    obtain ⟨m, rfl⟩ := Int.eq_ofNat_of_zero_le (show 0 ≤ b by omega)
    rfl
  have e2 : ((u.toNat % b.toNat : Nat) : Int) = u % b := by
    rw [Int.natCast_emod, Int.toNat_of_nonneg (by omega), Int.toNat_of_nonneg (by omega)]
  rw [showL_big (by omega) (by omega), List.map_append, List.map_singleton, ch_eq _ (by have := Nat.mod_lt u.toNat (show 0 < b.toNat by omega); omega), e1, e2]
theorem digits_ch (v : Int) (h : 0 ≤ v ∧ v < 36) : bt digitsB v = chI v := digits_at v h
/-- A block of bytes as a row of the call's own. -/
theorem R_arr {W : World} {base g : Nat} {L : List Int} {t : TypeId} (h : W.heap[g]? = some (.cells (L.map (Value.int .u8)).toArray t (0, 0))) (hb : base ≤ g) (hl : L.length ≤ 9223372036854775807) :
    Kd.R (Kd.int .u8) t W base (fun _ => True) (.slice (some ⟨g, 0, none⟩) L.length L.length) L := by
  have e : (Kd.int .u8).sz = 1 := rfl
  refine ⟨fun _ _ => trivial, L.map (Value.int .u8), ⟨by rw [List.length_map, e, Nat.mul_one], .inr ⟨g, L.length, _, rfl, hb, h, Nat.le_refl _, hl, by rw [List.size_toArray, List.length_map, e, Nat.mul_one], ?_⟩⟩, reps_scalar_mk (enc := Value.int .u8) (R := (Kd.int .u8).M W base _) (fun _ => rfl) L⟩
  rw [e, Nat.mul_one]
  exact List.take_of_length_le (by rw [List.length_map]; exact Nat.le_refl _)
end Go.Proofs.YtnalcjgefbelnaaDoor.Q
end
section
namespace Go.Proofs.YtnalcjgefbelnaaDoor.Q
open Go.RowKit Go.Proofs.YtnalcjgefbelnaaDoorW.PrintWords Go.Proofs.YtnalcjgefbelnaaDoorW.PrintLast Go.Proofs.YtnalcjgefbelnaaDoorW.PrintMore
set_option linter.unusedVariables false
set_option linter.unusedSimpArgs false

attribute [local go_sem] max2_int min2_int max_two min_two max_three min_three max_four min_four
/-! ### strconv_isPowerOfTwo: function 108 -/
def strconv_isPowerOfTwo.f (a0 : Int) : Option (Bool) := some ((Go.bits .and .i64 a0 (wrap64 (a0 - 1))) == 0)
set_option maxHeartbeats 8000000 in
set_option maxRecDepth 100000 in
theorem strconv_isPowerOfTwo.calls (a0 : Int) (r : Bool) (w : World) (h : strconv_isPowerOfTwo.f a0 = some r) :
    Calls Tryd.prog 108 #[.int .i64 a0] w fun e w' => e = .returned (.bool r) ∧ Drawn0 w w' := by
  have H : (some ((Go.bits .and .i64 a0 (wrap64 (a0 - 1))) == 0)) = some r := h
  clear h
  obtain rfl := Option.some.inj H
  go_enter Tryd.func108, Tryd.ntmps108
  go_wp2
  go_ret
  exact ⟨by first | rfl | (simp; done) | (simp [*]; done), by repeat (first | exact Drawn0.refl _ | apply Drawn0.step)⟩

end Go.Proofs.YtnalcjgefbelnaaDoor.Q
end
section
namespace Go.Proofs.YtnalcjgefbelnaaDoor.Q
open Go.RowKit Go.Proofs.YtnalcjgefbelnaaDoorW.PrintWords Go.Proofs.YtnalcjgefbelnaaDoorW.PrintLast Go.Proofs.YtnalcjgefbelnaaDoorW.PrintMore
theorem digits_idx (v : Int) (h : 0 ≤ v ∧ v < 36) : ∀ hh : v.toNat < (⟨#[48, 49, 50, 51, 52, 53, 54, 55, 56, 57, 97, 98, 99, 100, 101, 102, 103, 104, 105, 106, 107, 108, 109, 110, 111, 112, 113, 114, 115, 116, 117, 118, 119, 120, 121, 122]⟩ : ByteArray).size, (((⟨#[48, 49, 50, 51, 52, 53, 54, 55, 56, 57, 97, 98, 99, 100, 101, 102, 103, 104, 105, 106, 107, 108, 109, 110, 111, 112, 113, 114, 115, 116, 117, 118, 119, 120, 121, 122]⟩ : ByteArray)[v.toNat]'hh).toNat : Int) = chI v := fun hh => (bt_at (⟨#[48, 49, 50, 51, 52, 53, 54, 55, 56, 57, 97, 98, 99, 100, 101, 102, 103, 104, 105, 106, 107, 108, 109, 110, 111, 112, 113, 114, 115, 116, 117, 118, 119, 120, 121, 122]⟩ : ByteArray) v hh).trans (digits_ch v h)
theorem drop_set_at (L : List Int) (j : Nat) (x : Int) (h : j < L.length) : (L.set j x).drop j = x :: L.drop (j + 1) := by
  rw [List.drop_eq_getElem_cons (by rw [List.length_set]; exact h), List.getElem_set_self, List.drop_set_of_lt (by omega)]
theorem slice_arr (gb : Nat) (j : Int) (h : 0 ≤ j ∧ j < 65) (W : World) : (Instr.sliceAt 135 (.pointer (some ⟨gb, 0, none⟩)) (some (.int .i64 j)) none none).run Tryd.prog W = .ok (.slice (some ⟨gb, j.toNat, none⟩) (65 - j.toNat) (65 - j.toNat)) W := by
  have hal : Tryd.prog.arrayLen 135 = 65 := by kernel_rfl
  have hel : Tryd.prog.elem 135 = 5 := by kernel_rfl
  rw [run_sliceAt_array_l W 135 ⟨gb, 0, none⟩ (by kernel_rfl) .i64 j h.1 (by rw [hal]; omega), hal, hel, run_size (sz := 1) (by kernel_rfl) W]
  show Result.ok (slicedAt ⟨gb, 0, none⟩ j.toNat 65 65 1) W = _
  unfold slicedAt
  rw [if_neg (by omega), Nat.mul_one, add_plain]
def Z65 : List Value := (List.replicate 65 (0 : Int)).map (Value.int .u8)
theorem and_mask (u : Int) (s : Nat) (h0 : 0 ≤ u) (h1 : u < 18446744073709551616 ∧ s < 8) : bits .and .u64 u (2 ^ s - 1 : Nat) = u % (2 ^ s : Nat) := by
  obtain ⟨n, rfl⟩ := Int.eq_ofNat_of_zero_le h0
  have h2 : 2 ^ s ≤ 2 ^ 8 := Nat.pow_le_pow_right (by decide) (by omega)
  rw [bits_and_u64_nat n (2 ^ s - 1) (by omega) (by omega), Nat.and_two_pow_sub_one_eq_mod]
  rfl
set_option maxRecDepth 100000 in
theorem tz64_16 (w : World) (ht : QB.Tabs w) : Calls Tryd.prog 111 #[.int .u64 16] w fun e w' => e = .returned (.int .i64 4) ∧ w' = w := by
  have hc : w.cell? ⟨3, 15, none⟩ = some (.int .u8 4) := ht.at_bits_deBruijn64tab 15 (by decide)
  have e1 : IntKind.u64.wrap (bits .and .u64 16 (IntKind.u64.wrap (-16)) * 285870213051353865) / 288230376151711744 = 15 := by kernel_rfl
  clear ht
  go_enter Tryd.func111, Tryd.ntmps111
  go_wp2
  go_ret
  exact ⟨rfl, rfl⟩
set_option maxRecDepth 100000 in
theorem tz_16 (w : World) (ht : QB.Tabs w) : Calls Tryd.prog 109 #[.int .u64 16] w fun e w' => e = .returned (.int .i64 4) ∧ Below w.heap.size w w' := by
  have HT := Aside0.mk ht
  clear ht
  go_enter Tryd.func109, Tryd.ntmps109
  go_wp2_with (first
    | (go_at_call 111; refine (tz64_16 _ HT.out).mono ?_; rintro e w1 ⟨rfl, rfl⟩))
  go_ret
  exact ⟨rfl, Below.refl _ _⟩
set_option maxHeartbeats 4000000 in
set_option maxRecDepth 100000 in
theorem formatBits_p16 (u0 : Int) (hu : 0 ≤ u0 ∧ u0 < 4294967296) (w : World) (ht : QB.Tabs w) :
    Calls Tryd.prog 103 #[.slice none 0 0, .int .u64 u0, .int .i64 16, .bool false, .bool false] w fun e w' => e = .returned (.tuple #[.slice none 0 0, .string (strOfNums (showI 16 u0))]) ∧ Below w.heap.size w w' := by
  have HP := Aside0.mk (show strconv_isPowerOfTwo.f 16 = some true by kernel_rfl)
  have HBb := Aside0.mk (show (2 : Int) ≤ 16 ∧ (16 : Int) ≤ 36 ∧ (16 : Int) ≠ 10 by decide)
  have HT := Aside0.mk ht
  have hb := HBb.out
  have HU := Aside0.mk hu
  have HB := Aside0.mk (Below.refl w.heap.size w)
  obtain ⟨Z, hZ⟩ : ∃ Z, Z = Z65 := ⟨_, rfl⟩
  have HZ := Aside0.mk hZ
  clear ht hb hu hZ
  go_enter Tryd.func103, Tryd.ntmps103
  go_wp2_with (first
    | ((with_reducible refine gate_dst (N := 12) rfl ?_); refine box_event ?hg (N := 12) ?hd (cs := Z.toArray) (t := 135) ?hr ?_; (case hd => rfl); (case hg => rfl); (case hr => have hZ2 := HZ.out; first | (go_simp; done) | (go_simp; rfl)); intro gb hg w2 hbox hb; have BK := Aside0.mk hbox; have GB := Aside0.mk (show w.heap.size ≤ gb from hg ▸ Nat.le_refl _); have HB1 := Aside0.mk hb; clear hbox hb hg HB)
    | (go_at_call 108; refine (strconv_isPowerOfTwo.calls _ _ _ HP.out).mono ?_; rintro e w3 ⟨rfl, hd⟩; have HB3 := Aside0.mk (below_step HB1.out hd.below); have BK3 := Aside0.mk (blk_below BK.out hd.below); clear hd BK HB1)
    | (go_at_call 109; refine (tz_16 _ (HT.out.below HB3.out)).mono ?_; rintro e w4 ⟨rfl, hd⟩; have HB2 := Aside0.mk (below_step HB3.out hd); have BK2 := Aside0.mk (blk_below BK3.out hd); clear hd BK3 HB3))
  have HR := Aside0.mk (show Kd.R (Kd.int .u8) 135 _ w.heap.size (fun _ => True) (.slice (some ⟨gb, 0, none⟩) 65 65) (List.replicate 65 (0 : Int)) from by
    have h := BK2.out
    rw [HZ.out] at h
    exact R_arr (L := List.replicate 65 (0 : Int)) h GB.out (by decide))
  obtain ⟨n0, hn0⟩ : ∃ n0, n0 = (showL (16 : Int).toNat u0.toNat).length := ⟨_, rfl⟩
  have hn1 : 1 ≤ n0 ∧ n0 ≤ 32 := by
    have h1 := HU.out
    have h2 := HBb.out
    rw [hn0]
    exact ⟨showL_pos _ _, showL_len (16 : Int).toNat (by omega) 31 u0.toNat (by omega)⟩
  have HN0 := Aside0.mk hn0
  clear BK2 hn0
  go_loopg [1, 13] n0 (fun kq v1 v13 w' => ∃ (u i : Int) (L : List Int), v1 = .int .u64 u ∧ v13 = .int .i64 i ∧ Aside0 (0 ≤ u ∧ u < 4294967296 ∧ (showL (16 : Int).toNat u.toNat).length = kq ∧ kq ≤ n0 ∧ i = 65 - (n0 - kq) ∧ L.length = 65) ∧ Aside0 (showI 16 u ++ L.drop i.toNat = showI 16 u0) ∧ Aside0 (Kd.R (Kd.int .u8) 135 w' w.heap.size (fun _ => True) (.slice (some ⟨gb, 0, none⟩) 65 65) L) ∧ Aside0 (Below w.heap.size w w'))
  case atStart =>
    have h1 := HU.out
    exact ⟨u0, 65, _, rfl, rfl, ⟨h1.1, h1.2, HN0.out.symm, Nat.le_refl _, by omega, by simp⟩, ⟨by simp⟩, HR, HB2⟩
  case round =>
    clear HR HB2
    obtain ⟨u, i, L, rfl, rfl, HI, HS, HR, HB2⟩ := hrel
    have h7 := HBb.out
    by_cases hlt : 16 ≤ u
    · have d4 : decide (16 ≤ u) = true := decide_eq_true hlt
      obtain ⟨h1, h2, h3, h4, h5, h6⟩ := HI.out
      cases gk with
      | zero => exact absurd h3 (by have := showL_pos (16 : Int).toNat u.toNat; omega)
      | succ k1 =>
      cases k1 with
      | zero => exact absurd (showL_one (by omega) h3) (by omega)
      | succ k2 =>
      obtain ⟨h8, h9⟩ := showL_more (show 2 ≤ (16 : Int).toNat by omega) h3
      have hbig := showI_big h7.1 h7.2.1 hlt
      have hdm := Int.mul_ediv_add_emod u 16
      have hm0 := Int.emod_nonneg u (show (16 : Int) ≠ 0 by omega)
      have hm1 := Int.emod_lt_of_pos u (show (0 : Int) < 16 by omega)
      have hq0 : 0 ≤ u / 16 := Int.ediv_nonneg h1 (by omega)
      have hq1 : u / 16 ≤ u := Int.ediv_le_self _ h1
      have hqn : (u / 16).toNat = u.toNat / (16 : Int).toNat := by
        obtain ⟨n, rfl⟩ := Int.eq_ofNat_of_zero_le h1
        rfl
      rw [← hqn] at h9
      obtain ⟨q, hq⟩ : ∃ q : Int, q = u / 16 := ⟨_, rfl⟩
      obtain ⟨r, hr⟩ : ∃ r : Int, r = u % 16 := ⟨_, rfl⟩
      rw [← hq] at hbig hdm hq0 hq1 h9
      rw [← hr] at hbig hdm hm0 hm1
      obtain ⟨j, hj⟩ : ∃ j : Int, j = i - 1 := ⟨_, rfl⟩
      have hj2 : 0 ≤ j ∧ j < 65 := by omega
      have e1 : wrap64 (i - 1) = j := by unfold wrap64; omega
      have e2 : bits .and .u64 u 15 = r := by rw [hr]; exact and_mask u 4 h1 (by omega)
      have e3 : u / 16 = q := hq.symm
      obtain ⟨hx, hf⟩ := Kd.R_celln 0 HR.out j (by omega) (by omega)
      have hdg := digits_idx r (by omega)
      have p1 : (0 ≤ r) = True := eq_true hm0
      have p2 : (r < 36) = True := eq_true (by omega)
      have p3 : (0 ≤ j) = True := eq_true hj2.1
      have p4 : (j < 65) = True := eq_true hj2.2
      have HJ := Aside0.mk hj
      have HJ2 := Aside0.mk hj2
      have HBIG := Aside0.mk hbig
      have HQ := Aside0.mk (show 0 ≤ q ∧ q < 4294967296 from ⟨hq0, by omega⟩)
      have H9 := Aside0.mk h9
      have HP2 := Aside0.mk (Kd.R_putn HR.out j (chI r))
      clear hj hj2 hlt h1 h2 h3 h4 h5 h6 h7 h8 h9 hbig hdm hm0 hm1 hq0 hq1 hqn hq hr
      go_wp2
      go_roundg (k2 + 1)
      case measure => omega
      case rel =>
        have hi := HI.out
        have hj := HJ.out
        have hj2 := HJ2.out
        refine ⟨q, j, L.set j.toNat (chI r), rfl, rfl, ⟨HQ.out.1, HQ.out.2, H9.out, by omega, by omega, by rw [List.length_set]; exact hi.2.2.2.2.2⟩, ⟨?_⟩, ⟨HP2.out⟩, ⟨below_set HB2.out GB.out⟩⟩
        rw [drop_set_at L j.toNat (chI r) (by omega), show j.toNat + 1 = i.toNat by omega, ← HS.out, HBIG.out, List.append_assoc]
        rfl
    · have d4 : decide (16 ≤ u) = false := decide_eq_false hlt
      obtain ⟨j, hj⟩ : ∃ j : Int, j = i - 1 := ⟨_, rfl⟩
      have hj2 : 0 ≤ j ∧ j < 65 := by have := HI.out; omega
      have e1 : wrap64 (i - 1) = j := by unfold wrap64; omega
      obtain ⟨hx, hf⟩ := Kd.R_celln 0 HR.out j (by omega) (by omega)
      have hu1 := HI.out.1
      have hdg := digits_idx u (by omega)
      have p1 : (0 ≤ u) = True := eq_true hu1
      have p2 : (u < 36) = True := eq_true (by omega)
      have p3 : (0 ≤ j) = True := eq_true hj2.1
      have p4 : (j < 65) = True := eq_true hj2.2
      have HJ := Aside0.mk hj
      have HJ2 := Aside0.mk hj2
      have HLT := Aside0.mk hlt
      clear hj hj2 hlt hu1 h7
      have HP2 := Aside0.mk (Kd.R_putn HR.out j (chI u))
      have hsl : ∀ W, (Instr.sliceAt 135 (.pointer (some ⟨gb, 0, none⟩)) (some (.int .i64 j)) none none).run Tryd.prog W = .ok (.slice (some ⟨gb, j.toNat, none⟩) (65 - j.toNat) (65 - j.toNat)) W := fun W => slice_arr gb j HJ2.out W
      have hcv : (convert 28 9 (.slice (some ⟨gb, j.toNat, none⟩) (65 - j.toNat) (65 - j.toNat))).run Tryd.prog (wr.setCell ⟨gb, j.toNat, none⟩ (.int .u8 (chI u))) = .ok (.string (strOfNums (showI 16 u0))) (wr.setCell ⟨gb, j.toNat, none⟩ (.int .u8 (chI u))) := by
        have hi := HI.out
        have hj := HJ.out
        have hj2 := HJ2.out
        have h7 := HBb.out
        have h := C_cut (Kd.R_reads' HP2.out).2.2 (c := 65) (by rw [List.length_set]; omega) j.toNat (65 - j.toNat) (by rw [List.length_set]; omega)
        rw [cutAt_own (show j.toNat < 65 by omega)] at h
        have h' : Kd.C (Kd.int .u8) (wr.setCell ⟨gb, j.toNat, none⟩ (.int .u8 (chI u))) (some ⟨gb, j.toNat * 1, none⟩) (65 - j.toNat) (((L.set j.toNat (chI u)).drop j.toNat).take (65 - j.toNat)) := h
        rw [Nat.mul_one] at h'
        have h2 := Kd.C_string (src := 28) (dst := 9) (c := 65 - j.toNat) Tryd.underlying28 Tryd.underlying5 Tryd.underlying9 h'
        rw [h2, List.take_of_length_le (by rw [List.length_drop, List.length_set]; omega), drop_set_at L j.toNat (chI u) (by omega), show j.toNat + 1 = i.toNat by omega, ← HS.out, showI_small hi.1 (Int.lt_of_not_ge HLT.out) h7.2.1]
        rfl
      go_wp2
      go_ret2
      exact ⟨rfl, below_set HB2.out GB.out⟩
end Go.Proofs.YtnalcjgefbelnaaDoor.Q
end
section
namespace Go.Proofs.YtnalcjgefbelnaaDoor.Q
open Go.RowKit Go.Proofs.YtnalcjgefbelnaaDoorW.PrintWords Go.Proofs.YtnalcjgefbelnaaDoorW.PrintLast Go.Proofs.YtnalcjgefbelnaaDoorW.PrintMore
def showB (b u : Int) : ByteArray := ⟨(showL b.toNat u.toNat).toArray⟩
theorem str_showI (b u : Int) : strOfNums (showI b u) = showB b u := by
  unfold strOfNums showI showB
  rw [List.map_map]
  congr 2
  conv => rhs; rw [← List.map_id (showL b.toNat u.toNat)]
  apply List.map_congr_left
  intro c _
  exact UInt8.toNat_inj.1 (by simp)
set_option maxHeartbeats 1000000 in
set_option maxRecDepth 100000 in
theorem formatUint_16 (u : Int) (hu : 0 ≤ u ∧ u < 4294967296) (w : World) (ht : QB.Tabs w) :
    Calls Tryd.prog 96 #[.int .u64 u, .int .i64 16] w fun e w' => e = .returned (.string (showB 16 u)) ∧ Below w.heap.size w w' := by
  have HC := Aside0.mk (formatBits_p16 u hu w ht)
  rw [str_showI] at HC
  clear ht hu
  go_enter Tryd.func96, Tryd.ntmps96
  go_wp2_with (first
    | (go_at_call 103; (with_reducible refine HC.out.mono ?_); rintro e w1 ⟨rfl, hb⟩; have HB := Aside0.mk hb; clear hb))
  go_ret
  exact ⟨rfl, HB.out⟩
set_option maxHeartbeats 1000000 in
set_option maxRecDepth 100000 in
theorem formatUintO_16 (u : Int) (hu : 0 ≤ u ∧ u < 4294967296) (w : World) (ht : QB.Tabs w) :
    Calls Tryd.prog 90 #[.int .u64 u, .int .i64 16] w fun e w' => e = .returned (.string (showB 16 u)) ∧ Below w.heap.size w w' := by
  have HC := Aside0.mk (formatUint_16 u hu w ht)
  clear ht hu
  go_enter Tryd.func90, Tryd.ntmps90
  go_wp2_with (first
    | (go_at_call 96; (with_reducible refine HC.out.mono ?_); rintro e w1 ⟨rfl, hb⟩; have HB := Aside0.mk hb; clear hb))
  go_ret
  exact ⟨rfl, HB.out⟩
set_option maxHeartbeats 1000000 in
set_option maxRecDepth 100000 in
theorem show16 (n : Int) (hn : 0 ≤ n ∧ n < 4294967296) (w : World) (ht : QB.Tabs w) :
    Calls Tryd.prog 82 #[.int .u32 n, .int .u32 16] w fun e w' => e = .returned (.tuple #[.string (showB 16 n), .int .i64 0]) ∧ Below w.heap.size w w' := by
  have HU := Aside0.mk (fun (W : World) (hT : QB.Tabs W) => formatUintO_16 n hn W hT)
  have HF := Aside0.mk (show digit_fit.f 16 = some true by kernel_rfl)
  have HT := Aside0.mk ht
  have e1 : IntKind.u64.wrap n = n := wrap_u64_id n hn.1 (by omega)
  clear hn ht
  go_enter Tryd.func82, Tryd.ntmps82
  go_wp2_with (first
    | (go_at_call 89; (with_reducible refine (digit_fit.calls _ _ _ HF.out).mono ?_); rintro e w1 ⟨rfl, hd⟩; have HB1 := Aside0.mk hd.below; have HT1 := Aside0.mk (HT.out.below hd.below); clear hd)
    | (go_at_call 90; (with_reducible refine (HU.out _ HT1.out).mono ?_); rintro e w2 ⟨rfl, hb⟩; have HB2 := Aside0.mk (below_step HB1.out hb); clear hb))
  go_ret2
  exact ⟨rfl, HB2.out⟩
def digit_Show.f (n b : Int) : Option (ByteArray × Int) := if (0 ≤ n ∧ n < 4294967296) ∧ b = 16 then some (showB 16 n, 0) else none
theorem digit_Show.calls (a0 : Int) (a1 : Int) (r1 : ByteArray) (r2 : Int) (w : World) (ht : QB.Tabs w) (h : digit_Show.f a0 a1 = some (r1, r2)) :
    Calls Tryd.prog 82 #[.int .u32 a0, .int .u32 a1] w fun e w' => e = .returned (.tuple #[.string r1, .int .i64 r2]) ∧ Below w.heap.size w w' := by
  unfold digit_Show.f at h
  split at h
  case isFalse => cases h
  rename_i hn
  obtain ⟨rfl, rfl⟩ := Prod.mk.inj (Option.some.inj h)
  obtain ⟨hn, rfl⟩ := hn
  exact show16 a0 hn w ht
end Go.Proofs.YtnalcjgefbelnaaDoor.Q
end
section
namespace Go.Proofs.YtnalcjgefbelnaaDoor.Q
open Go.RowKit Go.Proofs.YtnalcjgefbelnaaDoorW.PrintWords Go.Proofs.YtnalcjgefbelnaaDoorW.PrintLast Go.Proofs.YtnalcjgefbelnaaDoorW.PrintMore
set_option linter.unusedVariables false
set_option linter.unusedSimpArgs false

attribute [local go_sem] max2_int min2_int max_two min_two max_three min_three max_four min_four
/-! ### prop_ShowUnit: function 72 -/
def prop_ShowUnit.l0 : Nat → List ByteArray → List Int → Int → Int → Option (ByteArray)
  | 0, _, _, _, _ => none
  | k + 1, x3, x9, x10, x11 => if x11 < x10 then (if 0 ≤ x11 then (if x11 < (x9.length : Int) then ((digit_Show.f (rd x9 x11) 16).bind fun bt73005 => (if x11 < (x3.length : Int) then (prop_ShowUnit.l0 k (x3.set (x11 : Int).toNat bt73005.1) x9 x10 (wrap64 (x11 + 1))) else (none))) else (none)) else (none)) else ((strings_Join.f x3 (⟨#[44]⟩ : ByteArray)).bind fun t73008 => (some t73008))
def prop_ShowUnit.f (k : Nat) (l0 : List Int) : Option (ByteArray) := if 0 ≤ (l0.length : Int) then (if ((l0.length : Int) : Int).toNat ≤ 17592186044416 then (prop_ShowUnit.l0 k (List.replicate ((l0.length : Int) : Int).toNat (⟨#[]⟩ : ByteArray)) l0 (l0.length : Int) 0) else (none)) else (none)
set_option maxHeartbeats 8000000 in
set_option maxRecDepth 100000 in
theorem prop_ShowUnit.calls (k : Nat) (A0 : Option Addr) (c0 : Nat) (l0 : List Int) (r : ByteArray) (w : World) (ht : QB.Tabs w) (hr0 : Kd.C (Kd.int .u32) w A0 l0.length l0) (hc0 : l0.length ≤ c0) (h : prop_ShowUnit.f k l0 = some r) :
    Calls Tryd.prog 72 #[.slice A0 l0.length c0] w fun e w' => e = .returned (.string r) ∧ Below w.heap.size w w' := by
  have HR0 := Aside0.mk hr0
  have HC0 := Aside0.mk hc0
  clear hr0 hc0
  have HB := Aside0.mk (Below.refl w.heap.size w)
  have H : (if 0 ≤ (l0.length : Int) then (if ((l0.length : Int) : Int).toNat ≤ 17592186044416 then (prop_ShowUnit.l0 k (List.replicate ((l0.length : Int) : Int).toNat (⟨#[]⟩ : ByteArray)) l0 (l0.length : Int) 0) else (none)) else (none)) = some r := h
  clear h
  by_cases c2 : 0 ≤ (l0.length : Int)
  · rw [if_pos c2] at H
    have c2b0 := eq_true c2
    have c2b1 : decide (0 ≤ (l0.length : Int)) = true := decide_eq_true c2
    clear c2
    by_cases c3 : ((l0.length : Int) : Int).toNat ≤ 17592186044416
    · rw [if_pos c3] at H
      have c3b0 := eq_true c3
      have c3b1 : decide (((l0.length : Int) : Int).toNat ≤ 17592186044416) = true := decide_eq_true c3
      clear c3
      obtain ⟨y73001, hy73001⟩ : ∃ y_ : List ByteArray, y_ = (List.replicate ((l0.length : Int) : Int).toNat (⟨#[]⟩ : ByteArray)) := ⟨_, rfl⟩
      replace H : (prop_ShowUnit.l0 k y73001 l0 (l0.length : Int) 0) = some r := by first | (rw [hy73001]; with_reducible exact H) | (have H2_ := (Option.bind_some _ _).symm.trans H; rw [hy73001]; with_reducible exact H2_) | (have H2_ := (Option.bind_some _ _).symm.trans H; with_reducible exact H2_) | with_reducible exact H | (rw [hy73001]; exact H) | exact H
      have Ny73001 := Aside0.mk hy73001
      clear hy73001
      have H' := Aside0.mk H
      clear H
      go_enter Tryd.func72, Tryd.ntmps72
      go_wp2_with (first | ((with_reducible refine gate_dst (N := 8) rfl ?_); refine Kd.R_make Kd.string _ 9 rfl (N := 8) rfl 107 _ _ rfl (l0.length : Int) rfl rfl Tryd.underlying107 (.string ⟨#[]⟩) 16 info9 rfl (by decide) (by omega) (⟨#[]⟩ : ByteArray) (ok := fun _ => True) (okp := fun _ => True) rfl (fun _ hk => hk) trivial (of_decide_eq_true (by first | (with_reducible assumption) | assumption)) (Nat.le_trans (Nat.mul_le_mul_right _ (of_decide_eq_true (by first | (with_reducible assumption) | assumption) : (l0.length : Int).toNat ≤ 17592186044416)) (by omega)) (Below.refl _ _) (Nat.le_refl _) ?_; intro v73002 w4 ho5 hb hg_ hnew_; clear hg_ hnew_; (first | rw [← Ny73001.out] at ho5 | (simp only [Int.reduceToNat] at ho5; rw [← Ny73001.out] at ho5)); have n0_ := Aside0.mk (Kd.R_lower ho5 (below_size (by repeat (first | (with_reducible first | exact HB.out | apply below_alloc | apply pw_below_drewN | apply below_drew1) | exact HB.out)))); have n1_ := Aside0.mk (below_step (by repeat (first | (with_reducible first | exact HB.out | apply below_alloc | apply pw_below_drewN | apply below_drew1) | exact HB.out)) hb); clear HB; have HO73003 := n0_; have HB := n1_; clear n0_ n1_; clear hb ho5))
      go_loopg [11] k (fun kq v11 w' => ∃ (x3_1 : List ByteArray) (x11_1 : Int), v11 = .int .i64 x11_1 ∧ Aside0 (prop_ShowUnit.l0 kq x3_1 l0 (l0.length : Int) x11_1 = some r) ∧ Aside0 (kq ≤ k) ∧ Aside0 (Kd.R Kd.string 9 w' w.heap.size (fun _ => True) v73002 x3_1) ∧ Aside0 (Below w.heap.size w w'))
      case atStart => exact ⟨(y73001), (0), (by first | rfl | (simp; done) | (simp [*]; done)), H', ⟨Nat.le_refl _⟩, ⟨by (with_reducible repeat (first | apply Kd.R_alloc | apply Kd.R_drewN | apply Kd.R_drew)); exact HO73003.out⟩, ⟨by repeat (first | (with_reducible first | exact HB.out | apply below_alloc | apply pw_below_drewN | apply below_drew1) | exact HB.out)⟩⟩
      case round =>
        clear H'
        try clear c2
        try clear c2b0
        try clear c2b1
        try clear p2
        try clear c3
        try clear c3b0
        try clear c3b1
        obtain ⟨x3_1, x11_1, rfl, HA, HK1, HO_3, HB⟩ := hrel
        cases gk with
        | zero => exact absurd HA.out (by simp [prop_ShowUnit.l0])
        | succ k1 =>
          have H := HA.out
          clear HA
          simp only [prop_ShowUnit.l0] at H
          by_cases c6 : x11_1 < (l0.length : Int)
          · rw [if_pos c6] at H
            have c6b0 : decide (x11_1 < (l0.length : Int)) = true := decide_eq_true c6
            clear c6
            by_cases c7 : 0 ≤ x11_1
            · rw [if_pos c7] at H
              have c7b0 : decide (0 ≤ x11_1) = true := decide_eq_true c7
              clear c7
              by_cases c8 : x11_1 < (l0.length : Int)
              · rw [if_pos c8] at H
                have c8b0 : decide (x11_1 < (l0.length : Int)) = true := decide_eq_true c8
                clear c8
                replace H := Option.bind_eq_some_iff.mp H
                obtain ⟨⟨t73005, t73006⟩, A90, H⟩ := H
                replace H : (if x11_1 < (x3_1.length : Int) then (prop_ShowUnit.l0 k1 (x3_1.set (x11_1 : Int).toNat t73005) l0 (l0.length : Int) (wrap64 (x11_1 + 1))) else (none)) = some r := H
                have A9 := Aside0.mk A90
                clear A90
                by_cases c10 : x11_1 < (x3_1.length : Int)
                · rw [if_pos c10] at H
                  have c10b0 : decide (x11_1 < (x3_1.length : Int)) = true := decide_eq_true c10
                  clear c10
                  obtain ⟨y73007, hy73007⟩ : ∃ y_ : List ByteArray, y_ = (x3_1.set (x11_1 : Int).toNat t73005) := ⟨_, rfl⟩
                  replace H : (prop_ShowUnit.l0 k1 y73007 l0 (l0.length : Int) (wrap64 (x11_1 + 1))) = some r := by first | (rw [hy73007]; with_reducible exact H) | (have H2_ := (Option.bind_some _ _).symm.trans H; rw [hy73007]; with_reducible exact H2_) | (have H2_ := (Option.bind_some _ _).symm.trans H; with_reducible exact H2_) | with_reducible exact H | (rw [hy73007]; exact H) | exact H
                  have Ny73007 := Aside0.mk hy73007
                  clear hy73007
                  have H' := Aside0.mk H
                  clear H
                  have p73004 : 0 ≤ (x11_1 : Int) := of_decide_eq_true (by first | (with_reducible assumption) | assumption)
                  have q73004 : x11_1 < (l0.length : Int) := of_decide_eq_true (by first | (with_reducible assumption) | assumption)
                  obtain ⟨ad73004, e73004, hx73004_0⟩ := Kd.at_int HR0.out x11_1 p73004 q73004
                  cases e73004
                  replace hx73004_0 := (HB.out.cell (World.block_lt_of_cell? w _ hx73004_0)).trans hx73004_0
                  replace p73004 := eq_true p73004
                  replace q73004 := eq_true q73004
                  go_wp2_with (first | ((with_reducible refine gate_callee (f := 82) rfl ?_); refine goesL_ (some 20) rfl rfl Tryd.func82 (by kernel_rfl) rfl #[.int .u32 (rd l0 x11_1), .int .u32 16] rfl (by (try simp only [List.map_toArray, List.map_cons, List.map_nil]); first | done | rfl | (simp only [List.length_drop, List.length_take]; rfl)) ?_; (with_reducible refine (digit_Show.calls (rd l0 x11_1) 16 t73005 t73006 _ (QB.Tabs.below ht (by repeat (first | (with_reducible first | exact HB.out | apply below_alloc | apply pw_below_drewN | apply below_drew1 | refine below_set ?_ (Aside0.out (by assumption))) | exact HB.out))) A9.out).mono ?_); rintro e w12 ⟨rfl, hb⟩; refine ⟨_, rfl, ?_⟩; have n0_ := Aside0.mk (Kd.R_below (by (with_reducible repeat (first | apply Kd.R_alloc | apply Kd.R_drewN | apply Kd.R_drew)); exact HO_3.out) hb); have n1_ := Aside0.mk (below_step (by repeat (first | (with_reducible first | exact HB.out | apply below_alloc | apply pw_below_drewN | apply below_drew1) | exact HB.out)) hb); clear HO_3; clear HB; have HO_3 := n0_; have HB := n1_; clear n0_ n1_; (try clear hb); (try clear hb2); (try clear hk); (try clear hi); have p11 : 0 ≤ (x11_1 : Int) := of_decide_eq_true (by first | (with_reducible assumption) | assumption); have q11 : (x11_1 : Int) < ((x3_1.length : Int) : Int) := of_decide_eq_true (by first | (with_reducible assumption) | assumption); obtain ⟨go11, co11, eo11, gb11, gl11, cl11, HG11⟩ := Kd.R_form HO_3.out (by omega); (first | cases eo11 | (injection eo11 with ea_ en_ ec_; (first | subst ea_ | (injection ea_ with ea_; subst ea_)); subst ec_; clear en_)); have GB11 := Aside0.mk gb11; have GG11 := Aside0.mk HG11; clear gb11 gl11 HG11; obtain ⟨hx11_0, hf11_0⟩ := Kd.R_celln (⟨#[]⟩ : ByteArray) HO_3.out (x11_1 : Int) p11 q11; replace p11 := eq_true p11; replace q11 := eq_true q11; obtain ⟨hy13_, hz13_⟩ := Kd.R_celln (⟨#[]⟩ : ByteArray) HO_3.out (x11_1 : Int) (of_decide_eq_true (by first | (with_reducible assumption) | assumption)) (of_decide_eq_true (by first | (with_reducible assumption) | assumption)); have HP13 := Kd.R_putg HO_3.out (x11_1 : Int) t73005) | ((with_reducible refine gate_store (t := 9) (p := 23) rfl ?_); refine store_event (t := 9) (p := 23) (v := ?vo_w14) (w1 := (w12.setCell ⟨go11, (x11_1 : Int).toNat, none⟩ (.string t73005))) ?hg ?ho ?hn ?hr ?_; (case ho => rfl); (case hg => rfl); (case hn => rfl); (case hr => first | (go_simp; done) | (go_simp; rfl)); intro w14 hw; have hg : w12.grownBy w14 (some go11) := (by rw [hw]; exact HP13.2); have hp_ : Kd.R Kd.string 9 w14 w.heap.size (fun _ => True) (.slice (some ⟨go11, 0, none⟩) x3_1.length co11) y73007 := (by rw [hw, Ny73007.out]; exact HP13.1); clear HP13; have n0_ := Aside0.mk (hp_); have n1_ := Aside0.mk ((by rw [hw]; exact below_set (HB.out) GB11.out : Below w.heap.size w w14)); clear HO_3; clear HB; have HO_3 := n0_; have HB := n1_; clear n0_ n1_; clear hg hw hp_))
                  go_roundg k1
                  case measure => have := HK1.out; omega
                  case rel => exact ⟨(y73007), (wrap64 (x11_1 + 1)), (by first | rfl | (simp; done) | (simp [*]; done)), H', ⟨by have := HK1.out; omega⟩, ⟨by (with_reducible repeat (first | apply Kd.R_alloc | apply Kd.R_drewN | apply Kd.R_drew)); exact HO_3.out⟩, ⟨by repeat (first | (with_reducible first | exact HB.out | apply below_alloc | apply pw_below_drewN | apply below_drew1) | exact HB.out)⟩⟩
                · rw [if_neg c10] at H
                  exact absurd H (by simp)
              · rw [if_neg c8] at H
                exact absurd H (by simp)
            · rw [if_neg c7] at H
              exact absurd H (by simp)
          · rw [if_neg c6] at H
            have c6b0 : decide (x11_1 < (l0.length : Int)) = false := decide_eq_false c6
            clear c6
            replace H := Option.bind_eq_some_iff.mp H
            obtain ⟨t73008, A150, H⟩ := H
            replace H : (some t73008) = some r := H
            have A15 := Aside0.mk A150
            clear A150
            obtain rfl := Option.some.inj H
            obtain ⟨Ao16, co16, eo16⟩ := Kd.R_slice HO_3.out
            subst eo16
            go_wp2_with (first | ((with_reducible refine gate_callee (f := 83) rfl ?_); refine goesL_ (some 26) rfl rfl Tryd.func83 (by kernel_rfl) rfl #[.slice Ao16 x3_1.length co16, .string (⟨#[44]⟩ : ByteArray)] rfl (by (try simp only [List.map_toArray, List.map_cons, List.map_nil]); first | done | rfl | (simp only [List.length_drop, List.length_take]; rfl)) ?_; (with_reducible refine (strings_Join.calls _ _ x3_1 (⟨#[44]⟩ : ByteArray) t73008 _ ?side1 ?side2 A15.out).mono ?_); (case side1 => repeat (first | exact (Kd.R_reads' HO_3.out).2.2 | (with_reducible refine Kd.C_alloc ?_ _) | (with_reducible refine Kd.C_drewN ?_ _) | (with_reducible refine Kd.C_drew ?_))); (case side2 => exact (Kd.R_reads' HO_3.out).2.1); rintro e w17 ⟨rfl, hb⟩; refine ⟨_, rfl, ?_⟩; have n0_ := Aside0.mk (Kd.R_below (by (with_reducible repeat (first | apply Kd.R_alloc | apply Kd.R_drewN | apply Kd.R_drew)); exact HO_3.out) hb); have n1_ := Aside0.mk (below_step (by repeat (first | (with_reducible first | exact HB.out | apply below_alloc | apply pw_below_drewN | apply below_drew1) | exact HB.out)) hb); clear HO_3; clear HB; have HO_3 := n0_; have HB := n1_; clear n0_ n1_; (try clear hb); (try clear hb2); (try clear hk); (try clear hi)))
            go_ret
            exact ⟨by first | rfl | (simp [errW_none, errW_some] <;> rfl) | (simp [*, errW_none, errW_some] <;> rfl), by repeat (first | (with_reducible first | exact HB.out | apply below_alloc | apply pw_below_drewN | apply below_drew1) | exact HB.out)⟩
    · rw [if_neg c3] at H
      exact absurd H (by simp)
  · rw [if_neg c2] at H
    exact absurd H (by simp)

end Go.Proofs.YtnalcjgefbelnaaDoor.Q
end
section
namespace Go.Proofs.YtnalcjgefbelnaaDoor.Q
open Go.RowKit Go.Proofs.YtnalcjgefbelnaaDoorW.PrintWords Go.Proofs.YtnalcjgefbelnaaDoorW.PrintLast Go.Proofs.YtnalcjgefbelnaaDoorW.PrintMore
def digS (d : Int) : ByteArray := ⟨[UInt8.ofNat (chN d.toNat)].toArray⟩
def preL (kq : Nat) (b u : Int) : List UInt8 := if kq = 0 then [] else showL b.toNat u.toNat
def tinderref02_Show.f (n b : Int) : Option (ByteArray × Int) := if 0 ≤ n ∧ n < 4294967296 then (if 2 ≤ b ∧ b ≤ 36 then some (showB b n, 0) else some (⟨#[]⟩, 1)) else none
end Go.Proofs.YtnalcjgefbelnaaDoor.Q
end
section
namespace Go.Proofs.YtnalcjgefbelnaaDoor.Q
open Go.RowKit Go.Proofs.YtnalcjgefbelnaaDoorW.PrintWords Go.Proofs.YtnalcjgefbelnaaDoorW.PrintLast Go.Proofs.YtnalcjgefbelnaaDoorW.PrintMore
set_option linter.unusedVariables false
set_option linter.unusedSimpArgs false

attribute [local go_sem] max2_int min2_int max_two min_two max_three min_three max_four min_four
/-! ### tinderref05_ShowUnit: function 75 -/
def tinderref05_ShowUnit.l0 : Nat → List Int → List Int → Int → Option (ByteArray)
  | 0, _, _, _ => none
  | k + 1, x0, x3, x4 => if x4 < (x0.length : Int) then (if x4 > 0 then (if x3.length < 140737488355328 then ((some (x3 ++ [44] : List Int)).bind fun y76001 => (if 0 ≤ x4 then ((tinderref02_Show.f (rd x0 x4) 16).bind fun bt76005 => (if y76001.length + bt76005.1.size < 140737488355328 then (tinderref05_ShowUnit.l0 k x0 (y76001 ++ bytesOf bt76005.1) (wrap64 (x4 + 1))) else (none))) else (none))) else (none)) else (if 0 ≤ x4 then ((tinderref02_Show.f (rd x0 x4) 16).bind fun bt76011 => (if x3.length + bt76011.1.size < 140737488355328 then (tinderref05_ShowUnit.l0 k x0 (x3 ++ bytesOf bt76011.1) (wrap64 (x4 + 1))) else (none))) else (none))) else (some (strOfNums x3))
def tinderref05_ShowUnit.f (k : Nat) (l0 : List Int) : Option (ByteArray) := tinderref05_ShowUnit.l0 k l0 ([] : List Int) 0

end Go.Proofs.YtnalcjgefbelnaaDoor.Q
end
section
set_option linter.unusedSimpArgs false
set_option linter.unusedVariables false
namespace Go.Proofs.YtnalcjgefbelnaaDoor.Q
open Go.RowKit Go.Proofs.YtnalcjgefbelnaaDoorW.PrintWords Go.Proofs.YtnalcjgefbelnaaDoorW.PrintLast
def shL (v : Int) : List UInt8 := showL 16 v.toNat
def unitsL (l : List Int) : List UInt8 := Lib.join (l.map shL) [44]
def unitsB (l : List Int) : ByteArray := ⟨(unitsL l).toArray⟩
def U32L (l : List Int) : Prop := ∀ a ∈ l, 0 ≤ a ∧ a < 4294967296
theorem join_snoc (xs : List (List UInt8)) (x : List UInt8) (sep : List UInt8) (h : xs ≠ []) : Lib.join (xs ++ [x]) sep = Lib.join xs sep ++ sep ++ x := by
  cases xs with
  | nil => exact absurd rfl h
  | cons y ys =>
    rw [List.cons_append, Lib.join_cons, Lib.join_cons]
    unfold Lib.joinTail
    rw [List.map_append, List.flatten_append]
    simp [List.append_assoc]
theorem shL_len (v : Int) (h : 0 ≤ v ∧ v < 4294967296) : (shL v).length ≤ 32 := showL_len 16 (by decide) 31 v.toNat (by have : (2 : Nat) ^ (31 + 1) = 4294967296 := by decide
                                                                                                                        omega)
theorem units_one (v : Int) : unitsL [v] = shL v := Lib.join_one _ _
theorem units_snoc (l : List Int) (v : Int) (h : l ≠ []) : unitsL (l ++ [v]) = unitsL l ++ [44] ++ shL v := by
  unfold unitsL
  rw [List.map_append, List.map_singleton, join_snoc _ _ _ (by simpa using h)]
theorem take_succ' {α : Type} (l : List α) (i : Nat) (h : i < l.length) : l.take (i + 1) = l.take i ++ [l[i]] := by
  rw [List.take_succ_eq_append_getElem h]
theorem units_len (l : List Int) (hl : U32L l) : ∀ i, i ≤ l.length → (unitsL (l.take i)).length ≤ 33 * i
  | 0, _ => by simp [unitsL, Lib.join_nil]
  | i + 1, h => by
    have ih := units_len l hl i (by omega)
    rw [take_succ' l i (by omega)]
    have hs := shL_len l[i] (hl _ (List.getElem_mem _))
    by_cases h0 : i = 0
    · subst h0
      rw [List.take_zero, List.nil_append, units_one]
      omega
    · rw [units_snoc _ _ (fun e => by have := congrArg List.length e; rw [List.length_take, List.length_nil] at this; omega)]
      rw [List.length_append, List.length_append, List.length_singleton]
      omega
theorem rd_get (l : List Int) (i : Nat) (h : i < l.length) : rd l (i : Int) = l[i] := by
  unfold rd
  rw [Int.toNat_natCast, List.getD_eq_getElem?_getD, List.getElem?_eq_getElem h]
  rfl
theorem bytesOf_mk (L : List UInt8) : bytesOf ⟨L.toArray⟩ = L.map fun b => (b.toNat : Int) := rfl
theorem strOf_bytes (L : List UInt8) : strOfNums (L.map fun b => (b.toNat : Int)) = ⟨L.toArray⟩ := by
  unfold strOfNums
  rw [List.map_map]
  congr 2
  conv => rhs; rw [← List.map_id L]
  apply List.map_congr_left
  intro c _
  exact UInt8.toNat_inj.1 (by simp)
theorem refshow_eq (v : Int) (h : 0 ≤ v ∧ v < 4294967296) : tinderref02_Show.f v 16 = some (⟨(shL v).toArray⟩, 0) := by
  unfold tinderref02_Show.f
  rw [if_pos h, if_pos (by decide)]
  rfl
theorem show_eq (v : Int) (h : 0 ≤ v ∧ v < 4294967296) : digit_Show.f v 16 = some (⟨(shL v).toArray⟩, 0) := by
  unfold digit_Show.f
  rw [if_pos ⟨h, rfl⟩]
  rfl
theorem refunits_go (l : List Int) (hl : U32L l) (hn : l.length ≤ 1000000000) : ∀ (d k i : Nat), i + d = l.length → d + 1 ≤ k → tinderref05_ShowUnit.l0 k l ((unitsL (l.take i)).map fun b => (b.toNat : Int)) (i : Int) = some (unitsB l)
  | 0, k, i, hi, hk => by
    obtain ⟨k, rfl⟩ : ∃ m, k = m + 1 := ⟨k - 1, by omega⟩
    unfold tinderref05_ShowUnit.l0
    rw [if_neg (by omega), List.take_of_length_le (by omega), strOf_bytes]
    rfl
  | d + 1, k, i, hi, hk => by
    obtain ⟨k, rfl⟩ : ∃ m, k = m + 1 := ⟨k - 1, by omega⟩
    have hb := hl l[i] (List.getElem_mem _)
    have hlen := units_len l hl i (by omega)
    have hs := shL_len l[i] hb
    have e1 : wrap64 ((i : Int) + 1) = ((i + 1 : Nat) : Int) := by unfold wrap64; omega
    have ih := refunits_go l hl hn d k (i + 1) (by omega) (by omega)
    have hsz : (⟨(shL l[i]).toArray⟩ : ByteArray).size = (shL l[i]).length := by simp [ByteArray.size]
    unfold tinderref05_ShowUnit.l0
    rw [if_pos (by omega), rd_get l i (by omega), refshow_eq _ hb]
    by_cases h0 : i = 0
    · subst h0
      rw [if_neg (by omega), if_pos (by omega), Option.bind_some]
      dsimp only
      rw [if_pos (by rw [List.length_map, hsz]; omega), e1, bytesOf_mk]
      rw [take_succ' l 0 (by omega), List.take_zero, List.nil_append, units_one] at ih
      rw [List.take_zero, show unitsL [] = [] from rfl, List.map_nil, List.nil_append]
      exact ih
    · rw [if_pos (by omega), if_pos (by rw [List.length_map]; omega), Option.bind_some, if_pos (by omega), Option.bind_some]
      dsimp only
      rw [if_pos (by rw [List.length_append, List.length_map, hsz, List.length_singleton]; omega), e1, bytesOf_mk]
      rw [take_succ' l i (by omega), units_snoc _ _ (fun e => by have := congrArg List.length e; rw [List.length_take, List.length_nil] at this; omega), List.map_append, List.map_append] at ih
      exact ih
theorem refunits_eq (k : Nat) (l : List Int) (hl : U32L l) (hn : l.length ≤ 1000000000) (hk : l.length + 1 ≤ k) : tinderref05_ShowUnit.f k l = some (unitsB l) := by
  have h := refunits_go l hl hn l.length k 0 (by omega) hk
  exact h
theorem units_go (l : List Int) (hl : U32L l) (hn : l.length ≤ 1000000000) : ∀ (d k i : Nat), i + d = l.length → d + 1 ≤ k → prop_ShowUnit.l0 k ((l.take i).map (fun v => (⟨(shL v).toArray⟩ : ByteArray)) ++ List.replicate d (⟨#[]⟩ : ByteArray)) l (l.length : Int) (i : Int) = some (unitsB l)
  | 0, k, i, hi, hk => by
    obtain ⟨k, rfl⟩ : ∃ m, k = m + 1 := ⟨k - 1, by omega⟩
    unfold prop_ShowUnit.l0
    have hlen := units_len l hl l.length (Nat.le_refl _)
    rw [List.take_length] at hlen
    have e : joinB (l.map (fun v => (⟨(shL v).toArray⟩ : ByteArray))) ⟨#[44]⟩ = unitsB l := by
      unfold joinB unitsB unitsL
      rw [List.map_map]
      rfl
    rw [if_neg (by omega), List.take_of_length_le (by omega), List.replicate_zero, List.append_nil]
    unfold strings_Join.f
    rw [e, if_pos ⟨by rw [List.length_map]; omega, by show (unitsL l).toArray.size ≤ _; rw [List.size_toArray]; omega⟩]
    rfl
  | d + 1, k, i, hi, hk => by
    obtain ⟨k, rfl⟩ : ∃ m, k = m + 1 := ⟨k - 1, by omega⟩
    have hb := hl l[i] (List.getElem_mem _)
    have e1 : wrap64 ((i : Int) + 1) = ((i + 1 : Nat) : Int) := by unfold wrap64; omega
    have ih := units_go l hl hn d k (i + 1) (by omega) (by omega)
    have hml : ((l.take i).map (fun v => (⟨(shL v).toArray⟩ : ByteArray))).length = i := by rw [List.length_map, List.length_take]; omega
    unfold prop_ShowUnit.l0
    rw [if_pos (by omega), if_pos (by omega), if_pos (by omega), rd_get l i (by omega), show_eq _ hb, Option.bind_some, if_pos (by rw [List.length_append, hml, List.length_replicate]; omega), e1]
    rw [take_succ' l i (by omega), List.map_append, List.map_singleton, List.append_assoc] at ih
    rw [Int.toNat_natCast, List.set_append_right _ _ (by omega), hml, Nat.sub_self, List.replicate_succ, List.set_cons_zero]
    exact ih
theorem units_eq (k : Nat) (l : List Int) (hl : U32L l) (hn : l.length ≤ 1000000000) (hk : l.length + 1 ≤ k) : prop_ShowUnit.f k l = some (unitsB l) := by
  have h := units_go l hl hn l.length k 0 (by omega) hk
  unfold prop_ShowUnit.f
  rw [if_pos (by omega), Int.toNat_natCast, if_pos (by omega)]
  exact h
end Go.Proofs.YtnalcjgefbelnaaDoor.Q
end
section
set_option linter.unusedSimpArgs false
set_option linter.unusedVariables false
namespace Go.Proofs.YtnalcjgefbelnaaDoor.Q
open Go.RowKit Go.Shelf Go.Proofs.YtnalcjgefbelnaaDoorW.PrintWords Go.Proofs.YtnalcjgefbelnaaDoorW.PrintLast Go.Proofs.YtnalcjgefbelnaaDoorW.PrintMore
attribute [local go_sem] max2_int min2_int max_two min_two max_three min_three max_four min_four
def okP (x : S49) : Bool := namedF x.f0 && decide (x.f1.length ≤ 4) && !decide (0 ≤ Lib.indexByte x.f2.data.toList 47)
def stepB (x : S49) : List UInt8 := (47 :: x.f0.data.toList) ++ (if 0 < x.f1.length then 64 :: unitsL x.f1 else []) ++ (if x.f2.size = 0 then [] else 58 :: x.f2.data.toList)
def pathL (l : List S49) : List UInt8 := (l.map stepB).flatten
def showP (l : List S49) : ByteArray × Int := if l.length = 0 then (⟨#[47]⟩, 0) else if l.all okP = true then (if 256 < (pathL l).length then (⟨#[]⟩, 3) else (⟨(pathL l).toArray⟩, 0)) else (⟨#[]⟩, 1)
theorem pathL_snoc (l : List S49) (x : S49) : pathL (l ++ [x]) = pathL l ++ stepB x := by
  unfold pathL
  rw [List.map_append, List.flatten_append]
  simp
theorem pathL_take (l : List S49) : ∀ i, (pathL (l.take i)).length ≤ (pathL l).length := by
  intro i
  have h : pathL l = pathL (l.take i) ++ pathL (l.drop i) := by
    unfold pathL
    rw [← List.flatten_append, ← List.map_append, List.take_append_drop]
  rw [h, List.length_append]
  omega
theorem cells_app (a b : List UInt8) : Lib.byteCells (a ++ b) = Lib.byteCells a ++ Lib.byteCells b := by unfold Lib.byteCells; rw [List.map_append]
theorem units_ge : ∀ l : List Int, l.length ≤ (unitsL l).length + 1
  | [] => by simp
  | [v] => by simp
  | v :: u :: l => by
    have ih := units_ge (u :: l)
    unfold unitsL at ih ⊢
    rw [List.map_cons, List.map_cons, Lib.join_cons]
    rw [List.map_cons, Lib.join_cons] at ih
    unfold Lib.joinTail at ih ⊢
    rw [List.map_cons, List.flatten_cons]
    simp only [List.length_append, List.length_cons, List.length_nil] at ih ⊢
    omega
theorem writeL (b : Nat) (P : List UInt8) (s : ByteArray) (W : World) (h : Lib.IsBuilder 94 5 b b (Lib.byteCells P) W) (hl : P.length + s.size ≤ 140737488355328) (hB : b ≤ W.heap.size) :
    Calls Tryd.prog 71 #[.pointer (some ⟨b, 0, none⟩), .string s] W fun e w' => e = .returned (.tuple #[.int .i64 s.size, .nilIface]) ∧ Lib.IsBuilder 94 5 b b (Lib.byteCells (P ++ s.data.toList)) w' ∧ Below b W w' ∧ KeepT b W w' := by
  refine (write_calls b b (Lib.byteCells P) s W h (by rw [Lib.byteCells_length]; exact hl) hB).mono ?_
  rintro e w' ⟨rfl, h1, h2, h3⟩
  refine ⟨rfl, .inr ?_, h2, h3⟩
  rw [cells_app]
  exact h1
theorem rd_T49_get (l : List S49) (i : Int) (h0 : 0 ≤ i) (h : i < l.length) : rd_T49 l i = l[i.toNat]'(by omega) := by
  unfold rd_T49
  rw [List.getD_eq_getElem?_getD, List.getElem?_eq_getElem (by omega)]
  rfl
set_option maxRecDepth 100000 in
set_option maxHeartbeats 8000000 in
theorem show_calls (A : Option Addr) (c : Nat) (l : List S49) (w : World) (ht : QB.Tabs w) (hC : Kd.C k49 w A l.length l) (hc : l.length ≤ c) (hU : ∀ x ∈ l, U32L x.f1) (hl : l.length ≤ 1000000000) (hP : (pathL l).length ≤ 1000000000) :
    Calls Tryd.prog 59 #[.slice A l.length c] w fun e w' => e = .returned (.tuple #[.string (showP l).1, .int .i64 (showP l).2]) ∧ Below w.heap.size w w' := by
  obtain ⟨R, hR⟩ : ∃ R, R = showP l := ⟨_, rfl⟩
  rw [← hR]
  by_cases h0 : l.length = 0
  · have HR := Aside0.mk (show R = (⟨#[47]⟩, 0) by rw [hR]; unfold showP; rw [if_pos h0])
    have d0 : ((l.length : Int) == 0) = true := by rw [h0]; rfl
    clear hR hC hc hU hl hP h0 ht
    go_enter Tryd.func59, Tryd.ntmps59
    go_wp2
    go_ret2
    exact ⟨by rw [HR.out]; rfl, Below.refl _ _⟩
  have d0 : ((l.length : Int) == 0) = false := beq_eq_false_iff_ne.2 (by omega)
  have HR := Aside0.mk (show R = if l.all okP = true then (if 256 < (pathL l).length then (⟨#[]⟩, 3) else (⟨(pathL l).toArray⟩, 0)) else (⟨#[]⟩, 1) by rw [hR]; unfold showP; rw [if_neg h0])
  have HC := Aside0.mk hC
  have HT := Aside0.mk ht
  have HU := Aside0.mk hU
  have HL := Aside0.mk hl
  have HP := Aside0.mk hP
  clear hR hC hc hU hl hP h0 ht
  go_enter Tryd.func59, Tryd.ntmps59
  go_wp2
  go_loopg [12] l.length (fun kq v12 w' => ∃ i : Int, v12 = .int .i64 i ∧ Aside0 (0 ≤ i ∧ i + kq = l.length) ∧ Aside0 (∀ x ∈ l.take i.toNat, okP x = true) ∧ Aside0 (Lib.IsBuilder 94 5 w.heap.size w.heap.size (Lib.byteCells (pathL (l.take i.toNat))) w') ∧ Aside0 (Below w.heap.size w w'))
  case atStart =>
    refine ⟨0, rfl, ⟨by omega, by omega⟩, ⟨fun x hx => by simp at hx⟩, ⟨.inl ⟨Nat.le_refl _, .slice none 0 0, heap_alloc_new w _, World.ownsRow_nil _ _ _ _, by simp [Value.ownBlock]⟩⟩, ⟨below_alloc (Below.refl _ _) _⟩⟩
  case round =>
    obtain ⟨i, rfl, HI, HO, HW, HB⟩ := hrel
    cases gk with
    | zero =>
      have hi := HI.out
      have hil : i = (l.length : Int) := by omega
      have ho := HO.out
      have hw := HW.out
      rw [hil, Int.toNat_natCast, List.take_length] at ho hw
      have hR := HR.out
      rw [if_pos (List.all_eq_true.2 ho)] at hR
      have hlt : decide (i < (l.length : Int)) = false := decide_eq_false (by omega)
      have HLN := Aside0.mk (Tryd.Builder_Len w.heap.size w.heap.size _ wr hw)
      rw [Lib.byteCells_length] at HLN
      have HST := Aside0.mk (Tryd.Builder_String_any w.heap.size w.heap.size (pathL l) wr hw HB.out.size)
      by_cases hb : 256 < (pathL l).length
      · rw [if_pos hb] at hR
        have d1 : decide (256 < ((pathL l).length : Int)) = true := decide_eq_true (by omega)
        have HE := Aside0.mk hR
        generalize (pathL l).length = n at HLN d1
        clear hi hil ho hw hR HST HI HO HW HC HT HU HP hb
        go_wp2_with (go_at_call 73; (with_reducible refine HLN.out.mono ?_); rintro e w7 ⟨rfl, rfl⟩)
        go_ret2
        exact ⟨by rw [HE.out]; rfl, HB.out⟩
      · rw [if_neg hb] at hR
        have d1 : decide (256 < ((pathL l).length : Int)) = false := decide_eq_false (by omega)
        have HE := Aside0.mk hR
        generalize (pathL l).length = n at HLN d1
        generalize (⟨(pathL l).toArray⟩ : ByteArray) = S at HST HE
        clear hi hil ho hw hR HI HO HW HC HT HU HP hb
        go_wp2_with (first
          | (go_at_call 73; (with_reducible refine HLN.out.mono ?_); rintro e w7 ⟨rfl, rfl⟩)
          | (go_at_call 74; (with_reducible refine HST.out.mono ?_); rintro e w8 ⟨rfl, hb⟩; have HB2 := Aside0.mk (HB.out.trans hb); clear hb))
        go_ret2
        exact ⟨by rw [HE.out]; rfl, HB2.out⟩
    | succ k1 =>
      have hi := HI.out
      have hlt : decide (i < (l.length : Int)) = true := decide_eq_true (by omega)
      have hlen := HL.out
      have hw1 : IntKind.i64.wrap (i + 1) = i + 1 := (i64_w _).trans (by unfold wrap64; omega)
      have hw2 : wrap64 (i + 1) = i + 1 := by unfold wrap64; omega
      have p1 : (0 ≤ i) = True := eq_true (by omega)
      have p2 : (i < (l.length : Int)) = True := eq_true (by omega)
      obtain ⟨ad, A1, c1, rfl, e0, e1, e2, hc1, hC1⟩ := at_T49 HC.out i (by omega) (by omega)
      have hxm : rd_T49 l i ∈ l := by rw [rd_T49_get l i (by omega) (by omega)]; exact List.getElem_mem _
      have htk : l.take (i + 1).toNat = l.take i.toNat ++ [rd_T49 l i] := by
        rw [show (i + 1).toNat = i.toNat + 1 by omega, take_succ' l i.toNat (by omega), rd_T49_get l i (by omega) (by omega)]
      have hux := HU.out _ hxm
      have hpl := pathL_take l (i + 1).toNat
      rw [htk, pathL_snoc, List.length_append] at hpl
      obtain ⟨x, hx⟩ : ∃ x, x = rd_T49 l i := ⟨_, rfl⟩
      rw [← hx] at e0 e1 e2 hc1 hC1 hxm htk hux hpl
      have hpP := HP.out
      have f0 : wr.cell? (ad.add (i.toNat * 3)) = some (.string x.f0) := by rw [HB.out.cell (World.block_lt_of_cell? w _ e0)]; exact e0
      have f1 : wr.cell? ⟨(ad.add (i.toNat * 3)).block, (ad.add (i.toNat * 3)).off + 1, none⟩ = some (.slice A1 x.f1.length c1) := by rw [HB.out.cell (World.block_lt_of_cell? w _ e1)]; exact e1
      have f2 : wr.cell? ⟨(ad.add (i.toNat * 3)).block, (ad.add (i.toNat * 3)).off + 2, none⟩ = some (.string x.f2) := by rw [HB.out.cell (World.block_lt_of_cell? w _ e2)]; exact e2
      have HX := Aside0.mk (show Kd.C (Kd.int .u32) w A1 x.f1.length x.f1 ∧ x.f1.length ≤ c1 ∧ U32L x.f1 ∧ x.f1.length ≤ 1000000000 from ⟨hC1, hc1, hux, by
        have h2 : x.f1.length ≤ (stepB x).length ∨ x.f1.length = 0 := by
          by_cases h : 0 < x.f1.length
          · left
            unfold stepB
            rw [if_pos h]
            simp only [List.length_append, List.length_cons]
            have h3 : x.f1.length ≤ (unitsL x.f1).length + 1 := units_ge x.f1
            omega
          · right; omega
        omega⟩)
      have HTK := Aside0.mk htk
      have HPL := Aside0.mk hpl
      have HXM := Aside0.mk hxm
      clear e0 e1 e2 hc1 hC1 hxm htk hux hx hpl
      go_upto_region 7 with (fail)
      obtain ⟨Y, hY⟩ : ∃ Y, Y = wr.alloc (.cells #[.string x.f0, .slice A1 x.f1.length c1, .string x.f2] 49) := ⟨_, rfl⟩
      obtain ⟨g6, hg6⟩ : ∃ g6, g6 = wr.heap.size := ⟨_, rfl⟩
      have K6 := Aside0.mk (show Y.heap[g6]? = some (.cells #[.string x.f0, .slice A1 x.f1.length c1, .string x.f2] 49 (0, 0)) by rw [hY, hg6]; exact heap_alloc_new wr _)
      have HBY := Aside0.mk (show Below w.heap.size w Y by rw [hY]; exact below_alloc HB.out _)
      have HWY := Aside0.mk (show Lib.IsBuilder 94 5 w.heap.size w.heap.size (Lib.byteCells (pathL (l.take i.toNat))) Y by rw [hY]; exact IsBuilder_below HW.out (below_alloc (Below.refl _ _) _))
      have HG := Aside0.mk (show g6 ≠ w.heap.size by
        have := HW.out
        have hlt2 : w.heap.size < wr.heap.size := by
          rcases this with h | h <;> exact h.lt
        omega)
      rw [← hY, ← hg6]
      clear hY hg6 f0 f1 f2 HB HW
      have k0 := (blk_cell K6.out 0).trans rfl
      have k1' := (blk_cell K6.out 1).trans rfl
      have k2' := (blk_cell K6.out 2).trans rfl
      have HN := Aside0.mk (show prop_Named.f 100 x.f0 = some (namedF x.f0) from named_eq 100 (by omega) x.f0)
      have HCT := Aside0.mk (fun W : World => Tryd.strings_Contains_one x.f2 47 W)
      by_cases hn : namedF x.f0 = true
      · rw [hn] at HN
        by_cases hu : 4 < x.f1.length
        · have du : decide (4 < (x.f1.length : Int)) = true := decide_eq_true (by omega)
          have HE := Aside0.mk (show R = (⟨#[]⟩, 1) by
            have hR := HR.out
            rw [if_neg (fun h => by
              have := List.all_eq_true.1 h x HXM.out
              rw [okP, decide_eq_false (show ¬ x.f1.length ≤ 4 by omega)] at this
              simp at this)] at hR
            exact hR)
          clear hi HX HTK HPL HWY HC HT HU HP hpP hlen
          go_wp2_with (first
            | (go_at_call 41; (with_reducible refine (prop_Named.calls 100 x.f0 _ _ HN.out).mono ?_); rintro e w1 ⟨rfl, hd⟩; have HBN := Aside0.mk (below_step HBY.out hd); have K6N := Aside0.mk (blk_below K6.out hd); have k0n := (blk_cell K6N.out 0).trans rfl; have k1n := (blk_cell K6N.out 1).trans rfl; have k2n := (blk_cell K6N.out 2).trans rfl)
            | (go_at_call 70; (with_reducible refine (HCT.out _).mono ?_); rintro e w1 ⟨rfl, rfl⟩))
          go_ret2
          exact ⟨by rw [HE.out]; rfl, HBN.out⟩
        · have du : decide (4 < (x.f1.length : Int)) = false := decide_eq_false (by omega)
          by_cases hs : 0 ≤ Lib.indexByte x.f2.data.toList 47
          · rw [decide_eq_true hs] at HCT
            have HE := Aside0.mk (show R = (⟨#[]⟩, 1) by
              have hR := HR.out
              rw [if_neg (fun h => by
                have := List.all_eq_true.1 h x HXM.out
                rw [okP, decide_eq_true hs] at this
                simp at this)] at hR
              exact hR)
            clear hi HX HTK HPL HWY HC HT HU HP hpP hlen
            go_wp2_with (first
              | (go_at_call 41; (with_reducible refine (prop_Named.calls 100 x.f0 _ _ HN.out).mono ?_); rintro e w1 ⟨rfl, hd⟩; have HBN := Aside0.mk (below_step HBY.out hd); have K6N := Aside0.mk (blk_below K6.out hd); have k0n := (blk_cell K6N.out 0).trans rfl; have k1n := (blk_cell K6N.out 1).trans rfl; have k2n := (blk_cell K6N.out 2).trans rfl)
              | (go_at_call 70; (with_reducible refine (HCT.out _).mono ?_); rintro e w1 ⟨rfl, rfl⟩))
            go_ret2
            exact ⟨by rw [HE.out]; rfl, HBN.out⟩
          · rw [decide_eq_false hs] at HCT
            have HOK := Aside0.mk (show okP x = true by unfold okP; rw [hn, decide_eq_false hs, decide_eq_true (show x.f1.length ≤ 4 by omega)]; rfl)
            have hstep : (stepB x).length = 1 + x.f0.size + (if 0 < x.f1.length then 1 + (unitsL x.f1).length else 0) + (if x.f2.size = 0 then 0 else 1 + x.f2.size) := by
              unfold stepB
              rw [List.length_append, List.length_append, List.length_cons, data_length]
              have a1 : (if 0 < x.f1.length then 64 :: unitsL x.f1 else []).length = if 0 < x.f1.length then 1 + (unitsL x.f1).length else 0 := by
                split
                · rw [List.length_cons]; omega
                · rfl
              have a2 : (if x.f2.size = 0 then [] else 58 :: x.f2.data.toList).length = if x.f2.size = 0 then 0 else 1 + x.f2.size := by
                split
                · rfl
                · rw [List.length_cons, data_length]; omega
              rw [a1, a2]
              omega
            have hpl := HPL.out
            have s1z : ((⟨#[47]⟩ : ByteArray) ++ x.f0).size = 1 + x.f0.size := by rw [ByteArray.size_append]; rfl
            have W1 := Aside0.mk (fun (W : World) (h : Lib.IsBuilder 94 5 w.heap.size w.heap.size (Lib.byteCells (pathL (l.take i.toNat))) W) (hB : w.heap.size ≤ W.heap.size) => writeL w.heap.size (pathL (l.take i.toNat)) ((⟨#[47]⟩ : ByteArray) ++ x.f0) W h (by omega) hB)
            have q1 : (9223372036854775807 < 1 + (x.f0.size : Int)) = False := eq_false (by omega)
            have q1n : (9223372036854775807 < 1 + x.f0.size) = False := eq_false (by omega)
            have q1m : (9223372036854775807 < (⟨#[47]⟩ : ByteArray).size + x.f0.size) = False := eq_false (by rw [show (⟨#[47]⟩ : ByteArray).size = 1 from rfl]; omega)
            have q1d : decide (9223372036854775807 < 1 + x.f0.size) = false := decide_eq_false (by omega)
            obtain ⟨P1, hP1⟩ : ∃ P1, P1 = pathL (l.take i.toNat) ++ ((⟨#[47]⟩ : ByteArray) ++ x.f0).data.toList := ⟨_, rfl⟩
            have hP1l : P1.length = (pathL (l.take i.toNat)).length + (1 + x.f0.size) := by rw [hP1, List.length_append, data_length, s1z]
            rw [← hP1] at W1
            by_cases hun : 0 < x.f1.length
            · have dun : decide ((0 : Int) < (x.f1.length : Int)) = true := decide_eq_true (by omega)
              have dunN : decide (0 < x.f1.length) = true := decide_eq_true hun
              have HSU := Aside0.mk (fun (W : World) (hT : QB.Tabs W) (hCW : Kd.C (Kd.int .u32) W A1 x.f1.length x.f1) => prop_ShowUnit.calls 1000000001 A1 c1 x.f1 (unitsB x.f1) W hT hCW HX.out.2.1 (units_eq 1000000001 x.f1 HX.out.2.2.1 HX.out.2.2.2 (by have := HX.out.2.2.2; omega)))
              rw [if_pos hun] at hstep
              have s2z : ((⟨#[64]⟩ : ByteArray) ++ unitsB x.f1).size = 1 + (unitsL x.f1).length := by rw [ByteArray.size_append]; simp [unitsB, ByteArray.size]
              have hub : (unitsB x.f1).size = (unitsL x.f1).length := by simp [unitsB, ByteArray.size]
              have q2 : (9223372036854775807 < 1 + ((unitsB x.f1).size : Int)) = False := eq_false (by omega)
              have q2n : (9223372036854775807 < 1 + (unitsB x.f1).size) = False := eq_false (by omega)
              have q2m : (9223372036854775807 < (⟨#[64]⟩ : ByteArray).size + (unitsB x.f1).size) = False := eq_false (by rw [show (⟨#[64]⟩ : ByteArray).size = 1 from rfl]; omega)
              have q2d : decide (9223372036854775807 < 1 + (unitsB x.f1).size) = false := decide_eq_false (by omega)
              have W2 := Aside0.mk (fun (W : World) (h : Lib.IsBuilder 94 5 w.heap.size w.heap.size (Lib.byteCells P1) W) (hB : w.heap.size ≤ W.heap.size) => writeL w.heap.size P1 ((⟨#[64]⟩ : ByteArray) ++ unitsB x.f1) W h (by omega) hB)
              obtain ⟨P2, hP2⟩ : ∃ P2, P2 = P1 ++ ((⟨#[64]⟩ : ByteArray) ++ unitsB x.f1).data.toList := ⟨_, rfl⟩
              have hP2l : P2.length = P1.length + (1 + (unitsL x.f1).length) := by rw [hP2, List.length_append, data_length, s2z]
              rw [← hP2] at W2
              by_cases har : x.f2.size = 0
              · have da : x.f2.toList.isEmpty = true := List.isEmpty_iff.2 ((empty_iff x.f2).2 har)
                have HEQ := Aside0.mk (show P2 = pathL (l.take (i + 1).toNat) by
                  rw [HTK.out, pathL_snoc, hP2, hP1]
                  unfold stepB
                  rw [if_pos hun, if_pos har]
                  simp [unitsB, List.append_assoc])
                clear hi hpP hlen hstep hpl hP1 hP1l s1z har hun hs hP2 hP2l s2z hub
                go_wp2_with (first
                  | (go_at_call 41; (with_reducible refine (prop_Named.calls 100 x.f0 _ _ HN.out).mono ?_); rintro e w1 ⟨rfl, hd⟩; have HBN := Aside0.mk (below_step HBY.out hd); have K6N := Aside0.mk (blk_below K6.out hd); have HWN := Aside0.mk (IsBuilder_below HWY.out hd); have k0n := (blk_cell K6N.out 0).trans rfl; have k1n := (blk_cell K6N.out 1).trans rfl; have k2n := (blk_cell K6N.out 2).trans rfl; clear hd)
                  | (go_at_call 70; (with_reducible refine (HCT.out _).mono ?_); rintro e w1 ⟨rfl, rfl⟩)
                  | (go_at_call 71; (with_reducible refine (W1.out _ HWN.out HBN.out.size).mono ?_); rintro e w2 ⟨rfl, hbw, hbb, hbk⟩; have HBp := Aside0.mk (HBN.out.trans hbb); have K6p := Aside0.mk (hbk g6 _ 49 _ HG.out (by decide) K6N.out); have HWp := Aside0.mk hbw; have k0p := (blk_cell K6p.out 0).trans rfl; have k1p := (blk_cell K6p.out 1).trans rfl; have k2p := (blk_cell K6p.out 2).trans rfl; clear hbw hbb hbk)
                  | (go_at_call 72; (with_reducible refine (HSU.out _ (HT.out.below HBp.out) (Kd.C_below HX.out.1 HBp.out)).mono ?_); rintro e w9 ⟨rfl, hd⟩; have HBs := Aside0.mk (below_step HBp.out hd); have K6s := Aside0.mk (blk_below K6p.out hd); have HWs := Aside0.mk (IsBuilder_below HWp.out hd); have k0s := (blk_cell K6s.out 0).trans rfl; have k1s := (blk_cell K6s.out 1).trans rfl; have k2s := (blk_cell K6s.out 2).trans rfl; clear hd)
                  | (go_at_call 71; (with_reducible refine (W2.out _ HWs.out HBs.out.size).mono ?_); rintro e w3 ⟨rfl, hbw, hbb, hbk⟩; have HBu := Aside0.mk (HBs.out.trans hbb); have K6u := Aside0.mk (hbk g6 _ 49 _ HG.out (by decide) K6s.out); have HWu := Aside0.mk hbw; have k0u := (blk_cell K6u.out 0).trans rfl; have k1u := (blk_cell K6u.out 1).trans rfl; have k2u := (blk_cell K6u.out 2).trans rfl; clear hbw hbb hbk))
                go_roundg k1
                case measure => omega
                case rel =>
                  have hi := HI.out
                  refine ⟨i + 1, rfl, ⟨by omega, by omega⟩, ⟨fun y hy => ?_⟩, ⟨?_⟩, HBu⟩
                  · rw [HTK.out] at hy
                    rcases List.mem_append.1 hy with hy | hy
                    · exact HO.out y hy
                    · rw [List.mem_singleton.1 hy]; exact HOK.out
                  · rw [← HEQ.out]
                    exact HWu.out
              · rw [if_neg har] at hstep
                have s3z : ((⟨#[58]⟩ : ByteArray) ++ x.f2).size = 1 + x.f2.size := by rw [ByteArray.size_append]; rfl
                have q3 : (9223372036854775807 < 1 + (x.f2.size : Int)) = False := eq_false (by omega)
                have q3n : (9223372036854775807 < 1 + x.f2.size) = False := eq_false (by omega)
                have q3m : (9223372036854775807 < (⟨#[58]⟩ : ByteArray).size + x.f2.size) = False := eq_false (by rw [show (⟨#[58]⟩ : ByteArray).size = 1 from rfl]; omega)
                have q3d : decide (9223372036854775807 < 1 + x.f2.size) = false := decide_eq_false (by omega)
                have da : x.f2.toList.isEmpty = false := List.isEmpty_eq_false_iff.2 (fun h => har ((empty_iff x.f2).1 h))
                have W3 := Aside0.mk (fun (W : World) (h : Lib.IsBuilder 94 5 w.heap.size w.heap.size (Lib.byteCells P2) W) (hB : w.heap.size ≤ W.heap.size) => writeL w.heap.size P2 ((⟨#[58]⟩ : ByteArray) ++ x.f2) W h (by omega) hB)
                obtain ⟨P3, hP3⟩ : ∃ P3, P3 = P2 ++ ((⟨#[58]⟩ : ByteArray) ++ x.f2).data.toList := ⟨_, rfl⟩
                rw [← hP3] at W3
                have HEQ := Aside0.mk (show P3 = pathL (l.take (i + 1).toNat) by
                  rw [HTK.out, pathL_snoc, hP3, hP2, hP1]
                  unfold stepB
                  rw [if_pos hun, if_neg har]
                  simp [unitsB, List.append_assoc])
                clear hi hpP hlen hstep hpl hP1 hP1l s1z har hun hs hP2 hP2l s2z hub hP3 s3z
                go_wp2_with (first
                  | (go_at_call 41; (with_reducible refine (prop_Named.calls 100 x.f0 _ _ HN.out).mono ?_); rintro e w1 ⟨rfl, hd⟩; have HBN := Aside0.mk (below_step HBY.out hd); have K6N := Aside0.mk (blk_below K6.out hd); have HWN := Aside0.mk (IsBuilder_below HWY.out hd); have k0n := (blk_cell K6N.out 0).trans rfl; have k1n := (blk_cell K6N.out 1).trans rfl; have k2n := (blk_cell K6N.out 2).trans rfl; clear hd)
                  | (go_at_call 70; (with_reducible refine (HCT.out _).mono ?_); rintro e w1 ⟨rfl, rfl⟩)
                  | (go_at_call 71; (with_reducible refine (W1.out _ HWN.out HBN.out.size).mono ?_); rintro e w2 ⟨rfl, hbw, hbb, hbk⟩; have HBp := Aside0.mk (HBN.out.trans hbb); have K6p := Aside0.mk (hbk g6 _ 49 _ HG.out (by decide) K6N.out); have HWp := Aside0.mk hbw; have k0p := (blk_cell K6p.out 0).trans rfl; have k1p := (blk_cell K6p.out 1).trans rfl; have k2p := (blk_cell K6p.out 2).trans rfl; clear hbw hbb hbk)
                  | (go_at_call 72; (with_reducible refine (HSU.out _ (HT.out.below HBp.out) (Kd.C_below HX.out.1 HBp.out)).mono ?_); rintro e w9 ⟨rfl, hd⟩; have HBs := Aside0.mk (below_step HBp.out hd); have K6s := Aside0.mk (blk_below K6p.out hd); have HWs := Aside0.mk (IsBuilder_below HWp.out hd); have k0s := (blk_cell K6s.out 0).trans rfl; have k1s := (blk_cell K6s.out 1).trans rfl; have k2s := (blk_cell K6s.out 2).trans rfl; clear hd)
                  | (go_at_call 71; (with_reducible refine (W2.out _ HWs.out HBs.out.size).mono ?_); rintro e w3 ⟨rfl, hbw, hbb, hbk⟩; have HBu := Aside0.mk (HBs.out.trans hbb); have K6u := Aside0.mk (hbk g6 _ 49 _ HG.out (by decide) K6s.out); have HWu := Aside0.mk hbw; have k0u := (blk_cell K6u.out 0).trans rfl; have k1u := (blk_cell K6u.out 1).trans rfl; have k2u := (blk_cell K6u.out 2).trans rfl; clear hbw hbb hbk)
                  | (go_at_call 71; (with_reducible refine (W3.out _ HWu.out HBu.out.size).mono ?_); rintro e w4 ⟨rfl, hbw, hbb, hbk⟩; have HBa := Aside0.mk (HBu.out.trans hbb); have K6a := Aside0.mk (hbk g6 _ 49 _ HG.out (by decide) K6u.out); have HWa := Aside0.mk hbw; have k0a := (blk_cell K6a.out 0).trans rfl; have k1a := (blk_cell K6a.out 1).trans rfl; have k2a := (blk_cell K6a.out 2).trans rfl; clear hbw hbb hbk))
                go_roundg k1
                case measure => omega
                case rel =>
                  have hi := HI.out
                  refine ⟨i + 1, rfl, ⟨by omega, by omega⟩, ⟨fun y hy => ?_⟩, ⟨?_⟩, HBa⟩
                  · rw [HTK.out] at hy
                    rcases List.mem_append.1 hy with hy | hy
                    · exact HO.out y hy
                    · rw [List.mem_singleton.1 hy]; exact HOK.out
                  · rw [← HEQ.out]
                    exact HWa.out
            · have dun : decide ((0 : Int) < (x.f1.length : Int)) = false := decide_eq_false (by omega)
              have dunN : decide (0 < x.f1.length) = false := decide_eq_false hun
              by_cases har : x.f2.size = 0
              · rw [if_neg hun, if_pos har] at hstep
                have da : x.f2.toList.isEmpty = true := List.isEmpty_iff.2 ((empty_iff x.f2).2 har)
                have HEQ := Aside0.mk (show P1 = pathL (l.take (i + 1).toNat) by
                  rw [HTK.out, pathL_snoc, hP1]
                  unfold stepB
                  rw [if_neg hun, if_pos har]
                  simp [unitsB, List.append_assoc])
                clear hi hpP hlen hstep hpl hP1 hP1l s1z har hun hs
                go_wp2_with (first
                  | (go_at_call 41; (with_reducible refine (prop_Named.calls 100 x.f0 _ _ HN.out).mono ?_); rintro e w1 ⟨rfl, hd⟩; have HBN := Aside0.mk (below_step HBY.out hd); have K6N := Aside0.mk (blk_below K6.out hd); have HWN := Aside0.mk (IsBuilder_below HWY.out hd); have k0n := (blk_cell K6N.out 0).trans rfl; have k1n := (blk_cell K6N.out 1).trans rfl; have k2n := (blk_cell K6N.out 2).trans rfl; clear hd)
                  | (go_at_call 70; (with_reducible refine (HCT.out _).mono ?_); rintro e w1 ⟨rfl, rfl⟩)
                  | (go_at_call 71; (with_reducible refine (W1.out _ HWN.out HBN.out.size).mono ?_); rintro e w2 ⟨rfl, hbw, hbb, hbk⟩; have HBp := Aside0.mk (HBN.out.trans hbb); have K6p := Aside0.mk (hbk g6 _ 49 _ HG.out (by decide) K6N.out); have HWp := Aside0.mk hbw; have k0p := (blk_cell K6p.out 0).trans rfl; have k1p := (blk_cell K6p.out 1).trans rfl; have k2p := (blk_cell K6p.out 2).trans rfl; clear hbw hbb hbk))
                go_roundg k1
                case measure => omega
                case rel =>
                  have hi := HI.out
                  refine ⟨i + 1, rfl, ⟨by omega, by omega⟩, ⟨fun y hy => ?_⟩, ⟨?_⟩, HBp⟩
                  · rw [HTK.out] at hy
                    rcases List.mem_append.1 hy with hy | hy
                    · exact HO.out y hy
                    · rw [List.mem_singleton.1 hy]; exact HOK.out
                  · rw [← HEQ.out]
                    exact HWp.out
              · rw [if_neg hun, if_neg har] at hstep
                have s3z : ((⟨#[58]⟩ : ByteArray) ++ x.f2).size = 1 + x.f2.size := by rw [ByteArray.size_append]; rfl
                have q3 : (9223372036854775807 < 1 + (x.f2.size : Int)) = False := eq_false (by omega)
                have q3n : (9223372036854775807 < 1 + x.f2.size) = False := eq_false (by omega)
                have q3m : (9223372036854775807 < (⟨#[58]⟩ : ByteArray).size + x.f2.size) = False := eq_false (by rw [show (⟨#[58]⟩ : ByteArray).size = 1 from rfl]; omega)
                have q3d : decide (9223372036854775807 < 1 + x.f2.size) = false := decide_eq_false (by omega)
                have da : x.f2.toList.isEmpty = false := List.isEmpty_eq_false_iff.2 (fun h => har ((empty_iff x.f2).1 h))
                have W3 := Aside0.mk (fun (W : World) (h : Lib.IsBuilder 94 5 w.heap.size w.heap.size (Lib.byteCells P1) W) (hB : w.heap.size ≤ W.heap.size) => writeL w.heap.size P1 ((⟨#[58]⟩ : ByteArray) ++ x.f2) W h (by omega) hB)
                obtain ⟨P3, hP3⟩ : ∃ P3, P3 = P1 ++ ((⟨#[58]⟩ : ByteArray) ++ x.f2).data.toList := ⟨_, rfl⟩
                rw [← hP3] at W3
                have HEQ := Aside0.mk (show P3 = pathL (l.take (i + 1).toNat) by
                  rw [HTK.out, pathL_snoc, hP3, hP1]
                  unfold stepB
                  rw [if_neg hun, if_neg har]
                  simp [unitsB, List.append_assoc])
                clear hi hpP hlen hstep hpl hP1 hP1l s1z har hun hs hP3 s3z
                go_wp2_with (first
                  | (go_at_call 41; (with_reducible refine (prop_Named.calls 100 x.f0 _ _ HN.out).mono ?_); rintro e w1 ⟨rfl, hd⟩; have HBN := Aside0.mk (below_step HBY.out hd); have K6N := Aside0.mk (blk_below K6.out hd); have HWN := Aside0.mk (IsBuilder_below HWY.out hd); have k0n := (blk_cell K6N.out 0).trans rfl; have k1n := (blk_cell K6N.out 1).trans rfl; have k2n := (blk_cell K6N.out 2).trans rfl; clear hd)
                  | (go_at_call 70; (with_reducible refine (HCT.out _).mono ?_); rintro e w1 ⟨rfl, rfl⟩)
                  | (go_at_call 71; (with_reducible refine (W1.out _ HWN.out HBN.out.size).mono ?_); rintro e w2 ⟨rfl, hbw, hbb, hbk⟩; have HBp := Aside0.mk (HBN.out.trans hbb); have K6p := Aside0.mk (hbk g6 _ 49 _ HG.out (by decide) K6N.out); have HWp := Aside0.mk hbw; have k0p := (blk_cell K6p.out 0).trans rfl; have k1p := (blk_cell K6p.out 1).trans rfl; have k2p := (blk_cell K6p.out 2).trans rfl; clear hbw hbb hbk)
                  | (go_at_call 71; (with_reducible refine (W3.out _ HWp.out HBp.out.size).mono ?_); rintro e w4 ⟨rfl, hbw, hbb, hbk⟩; have HBa := Aside0.mk (HBp.out.trans hbb); have K6a := Aside0.mk (hbk g6 _ 49 _ HG.out (by decide) K6p.out); have HWa := Aside0.mk hbw; have k0a := (blk_cell K6a.out 0).trans rfl; have k1a := (blk_cell K6a.out 1).trans rfl; have k2a := (blk_cell K6a.out 2).trans rfl; clear hbw hbb hbk))
                go_roundg k1
                case measure => omega
                case rel =>
                  have hi := HI.out
                  refine ⟨i + 1, rfl, ⟨by omega, by omega⟩, ⟨fun y hy => ?_⟩, ⟨?_⟩, HBa⟩
                  · rw [HTK.out] at hy
                    rcases List.mem_append.1 hy with hy | hy
                    · exact HO.out y hy
                    · rw [List.mem_singleton.1 hy]; exact HOK.out
                  · rw [← HEQ.out]
                    exact HWa.out
      · have hn2 := Bool.eq_false_iff.2 hn
        rw [hn2] at HN
        have HE := Aside0.mk (show R = (⟨#[]⟩, 1) by
          have hR := HR.out
          rw [if_neg (fun h => by
            have := List.all_eq_true.1 h x HXM.out
            rw [okP, hn2] at this
            simp at this)] at hR
          exact hR)
        clear hi HX HTK HPL HWY HC HT HU HP hpP hlen
        go_wp2_with (first
          | (go_at_call 41; (with_reducible refine (prop_Named.calls 100 x.f0 _ _ HN.out).mono ?_); rintro e w1 ⟨rfl, hd⟩; have HBN := Aside0.mk (below_step HBY.out hd); have K6N := Aside0.mk (blk_below K6.out hd); have k0n := (blk_cell K6N.out 0).trans rfl; have k1n := (blk_cell K6N.out 1).trans rfl; have k2n := (blk_cell K6N.out 2).trans rfl)
          | (go_at_call 70; (with_reducible refine (HCT.out _).mono ?_); rintro e w1 ⟨rfl, rfl⟩))
        go_ret2
        exact ⟨by rw [HE.out]; rfl, HBN.out⟩
end Go.Proofs.YtnalcjgefbelnaaDoor.Q
end
section
set_option linter.unusedSimpArgs false
set_option linter.unusedVariables false
namespace Go.Proofs.YtnalcjgefbelnaaDoor.Q
open Go.RowKit Go.Proofs.YtnalcjgefbelnaaDoorW.PrintWords Go.Proofs.YtnalcjgefbelnaaDoorW.PrintLast Go.Proofs.YtnalcjgefbelnaaDoorW.PrintMore
attribute [local go_sem] max2_int min2_int max_two min_two max_three min_three max_four min_four
theorem event_stepN {P : Program} {ops : Array Oper} {o : Oper} {a : Act} {Q : Exit → Act → World → Prop} {Kc : Act → World → Prop} {N : Option Tmp} {W w1 : World} {v : Value} (hw : Region.wanted o (yielded ops a.tmps) = true) (hN : o.dst = N) (hrun : (execOp a.eval o).run P W = .ok (.value v) w1) (h : Kc (a.put N v) w1) :
    if Region.wanted o (yielded ops a.tmps) = true then Oper.wp P o a W Kc Q else Kc (a.put N undef) W := by
  subst hN
  exact event_step hw hrun h
/-- The steps from a device up to the root. -/
def upF (t : List S44) : Nat → Int → List S49
  | 0, _ => []
  | k + 1, n => if 0 < n then (⟨(rd_T44 t n).f0, (rd_T44 t n).f1, ⟨#[]⟩⟩ : S49) :: upF t k (rd_T44 t n).f2 else []
def u32B (l : List Int) : Bool := l.all fun u => decide (0 ≤ u ∧ u < 4294967296)
def pathOk (l : List S49) : Bool := l.all (fun x => u32B x.f1) && decide ((pathL l).length ≤ 1000000000)
def tree_Path.f (l0 : List S44) (a1 : Int) : Option (ByteArray × Int) := (tree_check.f l0 a1).bind fun e => if e = 0 then (if pathOk (upF l0 a1.toNat a1).reverse = true then some (showP (upF l0 a1.toNat a1).reverse) else none) else some (⟨#[]⟩, e)
theorem upF_len (t : List S44) : ∀ (k : Nat) (n : Int), (upF t k n).length ≤ k
  | 0, n => Nat.le_refl 0
  | k + 1, n => by
    unfold upF
    split
    · have := upF_len t k (rd_T44 t n).f2
      rw [List.length_cons]
      omega
    · exact Nat.zero_le _
theorem form_up {t : List S44} (h : treeF t = true) (i : Int) (h0 : 0 < i) (hi : i < t.length) : 0 ≤ (rd_T44 t i).f2 ∧ (rd_T44 t i).f2 < i := by
  have h1 := form_node h i.toNat (by omega)
  unfold nodeOk at h1
  rw [show t.getD i.toNat z44 = rd_T44 t i from rfl, show ((i.toNat : Nat) : Int) = i by omega, beq_eq_false_iff_ne.2 (show i ≠ 0 by omega)] at h1
  unfold kidOk at h1
  simp only [Bool.and_eq_true, Bool.not_eq_true', decide_eq_false_iff_not, Bool.false_eq_true, if_false] at h1
  omega
theorem u32_of {x : List Int} (h : u32B x = true) : U32L x := fun u hu => by
  have := List.all_eq_true.1 h u hu
  exact of_decide_eq_true this
theorem seg_take (cur : List Value) (n k : Nat) (h : k < n) : seg (cur.take (n * 3)) 3 k = seg cur 3 k := by
  apply List.ext_getElem?
  intro t
  by_cases ht : t < 3
  · rw [seg_get _ _ _ _ ht, seg_get _ _ _ _ ht, List.getElem?_take, if_pos (by omega)]
  · have h1 : ∀ c : List Value, (seg c 3 k)[t]? = none := fun c => by unfold seg; rw [List.getElem?_take, if_neg ht]
    rw [h1, h1]
set_option maxHeartbeats 4000000 in
set_option maxRecDepth 100000 in
theorem reverse_nil (w : World) : Calls Tryd.prog 58 #[.slice none 0 0] w fun e w' => (∃ v, e = .returned v) ∧ w' = w := by
  have hu49 := Tryd.underlying49
  have hw0 : wrap64 ((0 : Int) - 1) = -1 := by unfold wrap64; omega
  have hw1 : wrap64 (-1) = -1 := by unfold wrap64; omega
  go_enter Tryd.func58, Tryd.ntmps58
  go_wp2
  go_loopg [2, 3] 0 (fun kq v2 v3 w' => v2 = .int .i64 0 ∧ v3 = .int .i64 (-1) ∧ w' = w)
  case atStart => exact ⟨rfl, by first | rfl | decide, rfl⟩
  case round =>
    obtain ⟨rfl, rfl, rfl⟩ := hrel
    have dl : decide ((0 : Int) < -1) = false := by decide
    go_wp2
    go_end0
    exact ⟨⟨_, rfl⟩, rfl⟩
/-- What is left in the row behind the turning. -/
theorem rev_C {w w2 : World} {g : Nat} {cur cur' : Array Value} {ss : List S49} {css : List (List Value)} (hl : css.length = ss.length) (hm : ss.length ≤ 1000)
    (hK : ∀ (j : Nat) x c, ss[j]? = some x → css[j]? = some c → k49.K w x c) (hseg : ∀ (k : Nat) c, css[k]? = some c → seg cur.toList 3 k = c)
    (hh : w2.heap[g]? = some (.cells cur' 49 (0, 0))) (hs : ∀ k, k < css.length → seg cur'.toList 3 k = seg cur.toList 3 (css.length - 1 - k)) (hb : Below w.heap.size w w2) :
    Kd.C k49 w2 (some ⟨g, 0, none⟩) css.length ss.reverse := by
  refine ⟨by rw [List.length_reverse, hl], by omega, fun hp => ⟨_, rfl, fun j p hj => ?_⟩⟩
  have hjl : j < ss.length := by
    have := (List.getElem?_eq_some_iff.1 hj).1
    rwa [List.length_reverse] at this
  have e1 : ss[css.length - 1 - j]? = some p := by
    rw [List.getElem?_reverse hjl] at hj
    rw [hl]
    exact hj
  obtain ⟨c, hc⟩ : ∃ c, css[css.length - 1 - j]? = some c := ⟨_, List.getElem?_eq_getElem (show css.length - 1 - j < css.length by omega)⟩
  have hk := hK _ _ _ e1 hc
  have hsg : seg cur'.toList 3 j = c := (hs j (by omega)).trans (hseg _ _ hc)
  refine ⟨c, k49.K_len hk, k49.K_below hb hk, fun i u hu => ?_⟩
  have hi : i < 3 := by
    have := (List.getElem?_eq_some_iff.1 hu).1
    rwa [k49.K_len hk] at this
  have := cell_seg hh hsg hi hu
  rw [add_plain]
  exact this
set_option maxHeartbeats 8000000 in
set_option maxRecDepth 100000 in
theorem tree_Path.calls (A0 : Option Addr) (c0 : Nat) (l0 : List S44) (a1 : Int) (r1 : ByteArray) (r2 : Int) (w : World) (ht : QB.Tabs w) (hr0 : Kd.C k44 w A0 l0.length l0) (hc0 : l0.length ≤ c0) (h : tree_Path.f l0 a1 = some (r1, r2)) :
    Calls Tryd.prog 23 #[.slice A0 l0.length c0, .int .i64 a1] w fun e w' => e = .returned (.tuple #[.string r1, .int .i64 r2]) ∧ Below w.heap.size w w' := by
  have hu44 := Tryd.underlying44
  have mixed : Tryd.prog.follows Departure.mixedOrders = true := by kernel_rfl
  unfold tree_Path.f at h
  obtain ⟨e0, A1, H⟩ := Option.bind_eq_some_iff.mp h
  clear h
  have HCK := Aside0.mk (tree_check.calls A0 c0 l0 a1 e0 w hr0 hc0 A1)
  by_cases he : e0 = 0
  · subst he
    rw [if_pos rfl] at H
    have HIN := Aside0.mk (check_in A1)
    have HTF := Aside0.mk (check_form A1)
    have HLN := Aside0.mk (form_len (check_form A1))
    obtain ⟨S0, hS0⟩ : ∃ S0, S0 = upF l0 a1.toNat a1 := ⟨_, rfl⟩
    have hS1 : S0.length ≤ 32 := by
      have := upF_len l0 a1.toNat a1
      have := (check_in A1)
      have := form_len (check_form A1)
      rw [hS0]
      omega
    rw [← hS0] at H
    by_cases hp : pathOk S0.reverse = true
    · rw [if_pos hp] at H
      have hq := H
      injection hq with hq
      unfold pathOk at hp
      rw [Bool.and_eq_true] at hp
      have HU := Aside0.mk (show ∀ x ∈ S0.reverse, U32L x.f1 from fun x hx => u32_of (List.all_eq_true.1 hp.1 x hx))
      have HPL := Aside0.mk (of_decide_eq_true hp.2)
      have HQ := Aside0.mk hq
      have HS := Aside0.mk hS0
      have HSL := Aside0.mk hS1
      have HC0 := Aside0.mk hr0
      have HT := Aside0.mk ht
      clear H hp hq hS0 hS1 hr0 ht A1 hc0
      have HSH := Aside0.mk (fun (A : Option Addr) (c n : Nat) (W : World) (hb : Below w.heap.size w W) (hn : S0.reverse.length = n) (hC : Kd.C k49 W A n S0.reverse) (hc : n ≤ c) => show Calls Tryd.prog 59 #[.slice A n c] W fun e w' => e = .returned (.tuple #[.string r1, .int .i64 r2]) ∧ Below W.heap.size W w' by
        have h1 := show_calls A c S0.reverse W (HT.out.below hb) (by rw [hn]; exact hC) (by rw [hn]; exact hc) HU.out (by rw [List.length_reverse]; have := HSL.out; omega) HPL.out
        rw [HQ.out, hn] at h1
        exact h1)
      go_enter Tryd.func23, Tryd.ntmps23
      go_wp2_with (first
        | (go_at_call 53; refine HCK.out.mono ?_; rintro e w1 ⟨rfl, hb⟩; have HB := Aside0.mk hb; clear hb))
      go_loopg [1, 7] a1.toNat (fun kq v1 v7 w' => ∃ (n : Int) (ss : List S49) (css : List (List Value)), v1 = .int .i64 n ∧ Aside0 (0 ≤ n ∧ n ≤ kq ∧ n < l0.length) ∧ Aside0 (css.length = ss.length ∧ (∀ (j : Nat) x c, ss[j]? = some x → css[j]? = some c → k49.K w x c)) ∧ Aside0 (ss ++ upF l0 kq n = S0) ∧ Aside0 (Kd.R (Kd.raw 3) 49 w' w.heap.size (fun _ => True) v7 css) ∧ Aside0 (Below w.heap.size w w'))
      case atStart => exact ⟨a1, [], [], rfl, ⟨by have := HIN.out; omega⟩, ⟨rfl, fun j x c hx => by simp at hx⟩, ⟨HS.out.symm⟩, ⟨Kd.R_nil _ _ _ _ _⟩, HB⟩
      case round =>
        rename World => wr
        obtain ⟨n, ss, css, rfl, HN, HK, HSS, HR, HB⟩ := hrel
        by_cases hlt : 0 < n
        · have dl : decide (0 < n) = true := decide_eq_true hlt
          obtain ⟨kq, rfl⟩ : ∃ k, gk = k + 1 := ⟨gk - 1, by have := HN.out; omega⟩
          have hup := form_up HTF.out n hlt HN.out.2.2
          obtain ⟨ad, B1, b1, B3, b3, B4, b4, eA, hx0, hx1, hx2, hx3, hx4, hl1, hg1, hl3, hg3, hl4, hg4⟩ := at_T44 HC0.out n (by omega) HN.out.2.2
          cases eA
          replace hx0 := (HB.out.cell (World.block_lt_of_cell? w _ hx0)).trans hx0
          replace hx1 := (HB.out.cell (World.block_lt_of_cell? w _ hx1)).trans hx1
          have HX2 := Aside0.mk (fun (W : World) (hb : Below w.heap.size w W) => (hb.cell (World.block_lt_of_cell? w _ hx2)).trans hx2)
          have hss := HSS.out
          rw [upF, if_pos hlt] at hss
          have HK2 := Aside0.mk (k49_mk w (⟨(rd_T44 l0 n).f0, (rd_T44 l0 n).f1, ⟨#[]⟩⟩ : S49) hl1 hg1)
          have HS2 := Aside0.mk hss
          have HCL := Aside0.mk (show css.length ≤ 40 by
            have h1 := HSL.out
            rw [← hss, List.length_append] at h1
            have := HK.out.1
            omega)
          have HUP := Aside0.mk hup
          have p1 : (0 ≤ n) = True := eq_true (by omega)
          have p2 : (n < (l0.length : Int)) = True := eq_true HN.out.2.2
          have p3 : (n.toNat < l0.length) = True := eq_true (by have := HN.out; omega)
          generalize rd_T44 l0 n = x at *
          clear hss hup hx2 hx3 hx4 hl1 hg1 hl3 hg3 hl4 hg4 hlt
          go_wp2
          refine start_ (n := 15) (S := fun w' => w'.cell? (ad.add (n.toNat * 5)) = some (.string x.f0) ∧ w'.cell? ⟨(ad.add (n.toNat * 5)).block, (ad.add (n.toNat * 5)).off + 1, none⟩ = some (.slice B1 x.f1.length b1)) (ds := [13]) #[false, false, false, false, false, false, false, false, false, false, false, false, false, false, false] (by kernel_rfl) rfl rfl ⟨hx0, hx1⟩ (fun hHeld => ?_)
          refine pure_ (i := 0) (N := some 21) (v := ?_) (a' := ?_) #[true, false, false, false, false, false, false, false, false, false, false, false, false, false, false] rfl rfl (by kernel_rfl) (fun _ _ _ h => h) (Or.inl ⟨by rfl, ?_⟩) ?_ ?_
          rotate_left
          · intro w'
            go_simp
            with_reducible rfl
          rotate_left
          · simp only [Act.put, List.setIfInBounds_toArray, List.set_cons_zero, List.set_cons_succ]
            rfl
          refine pure_ (i := 1) (N := some 22) (v := ?_) (a' := ?_) #[true, true, false, false, false, false, false, false, false, false, false, false, false, false, false] rfl rfl (by kernel_rfl) (fun _ _ _ h => h) (Or.inl ⟨by rfl, ?_⟩) ?_ ?_
          rotate_left
          · intro w'
            go_simp
            with_reducible rfl
          rotate_left
          · simp only [Act.put, List.setIfInBounds_toArray, List.set_cons_zero, List.set_cons_succ]
            rfl
          refine pure_ (i := 2) (N := some 23) (v := ?_) (a' := ?_) #[true, true, true, false, false, false, false, false, false, false, false, false, false, false, false] rfl rfl (by kernel_rfl) (fun _ _ _ h => h) (Or.inl ⟨by rfl, ?_⟩) ?_ ?_
          rotate_left
          · intro w'
            go_simp
            with_reducible rfl
          rotate_left
          · simp only [Act.put, List.setIfInBounds_toArray, List.set_cons_zero, List.set_cons_succ]
            rfl
          refine pure_ (i := 3) (N := some 24) (v := ?_) (a' := ?_) #[true, true, true, true, false, false, false, false, false, false, false, false, false, false, false] rfl rfl (by kernel_rfl) (fun _ _ _ h => h) (Or.inl ⟨by rfl, ?_⟩) ?_ ?_
          rotate_left
          · intro w'
            go_simp
            with_reducible rfl
          rotate_left
          · simp only [Act.put, List.setIfInBounds_toArray, List.set_cons_zero, List.set_cons_succ]
            rfl
          refine pure_ (i := 4) (N := some 25) (v := ?_) (a' := ?_) #[true, true, true, true, true, false, false, false, false, false, false, false, false, false, false] rfl rfl (by kernel_rfl) (fun _ _ _ h => h) (Or.inl ⟨by rfl, ?_⟩) ?_ ?_
          rotate_left
          · intro w'
            go_simp
            with_reducible rfl
          rotate_left
          · simp only [Act.put, List.setIfInBounds_toArray, List.set_cons_zero, List.set_cons_succ]
            rfl
          refine pure_ (i := 6) (N := some 27) (v := ?_) (a' := ?_) #[true, true, true, true, true, false, true, false, false, false, false, false, false, false, false] rfl rfl (by kernel_rfl) (fun _ _ _ h => h) (Or.inl ⟨by rfl, ?_⟩) ?_ ?_
          rotate_left
          · intro w'
            go_simp
            with_reducible rfl
          rotate_left
          · simp only [Act.put, List.setIfInBounds_toArray, List.set_cons_zero, List.set_cons_succ]
            rfl
          refine pure_ (i := 7) (N := some 28) (v := ?_) (a' := ?_) #[true, true, true, true, true, false, true, true, false, false, false, false, false, false, false] rfl rfl (by kernel_rfl) (fun _ _ _ h => h) (Or.inl ⟨by rfl, ?_⟩) ?_ ?_
          rotate_left
          · intro w'
            go_simp
            with_reducible rfl
          rotate_left
          · simp only [Act.put, List.setIfInBounds_toArray, List.set_cons_zero, List.set_cons_succ]
            rfl
          refine pure_ (i := 8) (N := some 29) (v := ?_) (a' := ?_) #[true, true, true, true, true, false, true, true, true, false, false, false, false, false, false] rfl rfl (by kernel_rfl) (fun _ _ _ h => h) (Or.inl ⟨by rfl, ?_⟩) ?_ ?_
          rotate_left
          · intro w'
            go_simp
            with_reducible rfl
          rotate_left
          · simp only [Act.put, List.setIfInBounds_toArray, List.set_cons_zero, List.set_cons_succ]
            rfl
          refine pure_ (i := 9) (N := some 30) (v := ?_) (a' := ?_) #[true, true, true, true, true, false, true, true, true, true, false, false, false, false, false] rfl rfl (by kernel_rfl) (fun _ _ _ h => h) (Or.inl ⟨by rfl, ?_⟩) ?_ ?_
          rotate_left
          · intro w'
            go_simp
            with_reducible rfl
          rotate_left
          · simp only [Act.put, List.setIfInBounds_toArray, List.set_cons_zero, List.set_cons_succ]
            rfl
          refine take_ (i := 5) (N := some 26) (v := (.string x.f0)) (a' := ?_) #[true, true, true, true, true, true, true, true, true, true, false, false, false, false, false] rfl rfl (by kernel_rfl) (fun _ _ _ h => h) (Or.inl ⟨by rfl, ?_⟩) hHeld ?_ ?_
          rotate_left
          rotate_left
          · simp only [Act.put, List.setIfInBounds_toArray, List.set_cons_zero, List.set_cons_succ]
            rfl
          rotate_left
          · rintro w' ⟨s0, s1⟩
            go_simp
          refine take_ (i := 10) (N := some 31) (v := (.slice B1 x.f1.length b1)) (a' := ?_) #[true, true, true, true, true, true, true, true, true, true, true, false, false, false, false] rfl rfl (by kernel_rfl) (fun _ _ _ h => h) (Or.inl ⟨by rfl, ?_⟩) hHeld ?_ ?_
          rotate_left
          rotate_left
          · simp only [Act.put, List.setIfInBounds_toArray, List.set_cons_zero, List.set_cons_succ]
            rfl
          rotate_left
          · rintro w' ⟨s0, s1⟩
            go_simp
          refine pure_ (i := 11) (N := some 32) (v := ?_) (a' := ?_) #[true, true, true, true, true, true, true, true, true, true, true, true, false, false, false] rfl rfl (by kernel_rfl) (fun _ _ _ h => h) (Or.inl ⟨by rfl, ?_⟩) ?_ ?_
          rotate_left
          · intro w'
            go_simp
            with_reducible rfl
          rotate_left
          · simp only [Act.put, List.setIfInBounds_toArray, List.set_cons_zero, List.set_cons_succ]
            rfl
          obtain ⟨X, hX⟩ : ∃ X, X = wr.drew := ⟨_, rfl⟩
          have HRX := Aside0.mk (show Kd.R (Kd.raw 3) 49 X w.heap.size (fun _ => True) _ css by rw [hX]; exact Kd.R_drew HR.out)
          have HBX := Aside0.mk (show Below w.heap.size w X by rw [hX]; exact below_drew1 HB.out)
          rw [← hX] at hHeld ⊢
          clear hX
          refine one_ (i := 12) (N := some 33) #[true, true, true, true, true, true, true, true, true, true, true, true, true, false, false] rfl rfl (by kernel_rfl) (by decide) (fun K hK => ?_)
          refine event_stepN (by rfl) rfl (v := .slice (some ⟨X.heap.size, 0, none⟩) 1 1) (w1 := X.alloc (.cells #[.string x.f0, .slice B1 x.f1.length b1, .string ⟨#[]⟩] 49)) (by first | (go_simp; done) | (go_simp; rfl)) (hK.out _ _ ⟨((below_alloc (Below.refl X.heap.size X) _).cell (World.block_lt_of_cell? _ _ hHeld.1)).trans hHeld.1, ((below_alloc (Below.refl X.heap.size X) _).cell (World.block_lt_of_cell? _ _ hHeld.2)).trans hHeld.2⟩ (fun hHeld => ?_))
          clear hK K
          simp only [Act.put, List.setIfInBounds_toArray, List.set_cons_zero, List.set_cons_succ]
          refine last_ (i := 13) (N := some 34) #[true, true, true, true, true, true, true, true, true, true, true, true, true, true, false] rfl rfl (by kernel_rfl) (by decide) (fun K hK => ?_)
          refine Kd.R_append_step (Kd.raw 3) (w0 := w) w.heap.size (by rfl) (.tmp 21) (.tmp 33) 36 49 (.agg #[(.string ⟨#[]⟩), (.slice none 0 0), (.string ⟨#[]⟩)]) 56 rfl Tryd.underlying36 info49 rfl (by decide) (by decide) _ css [.string x.f0, .slice B1 x.f1.length b1, .string ⟨#[]⟩] [.string x.f0, .slice B1 x.f1.length b1, .string ⟨#[]⟩] (fun _ => True) (fun _ => False) rfl rfl ⟨rfl, rfl, by intro u hu; simp at hu; rcases hu with rfl | rfl | rfl <;> rfl⟩ (fun _ h => h.elim) (fun _ _ => trivial) HRX.out HBX.out HBX.out.size (by have := HCL.out; omega) ?_
          intro v1 w1 ho hb hg hat
          refine hK.out _ _ ?_
          have HR2 := Aside0.mk ho
          have HB2 := Aside0.mk hb
          clear hK K ho hb hg hat hHeld hx0 hx1
          simp only [Act.put, List.getElem_toArray, List.getElem_cons_succ, List.getElem_cons_zero, List.setIfInBounds_toArray, List.set_cons_zero, List.set_cons_succ]
          refine pure_ (i := 14) (N := some 7) (v := ?_) (a' := ?_) #[true, true, true, true, true, true, true, true, true, true, true, true, true, true, true] rfl rfl (by kernel_rfl) (fun _ _ _ h => h) (Or.inl ⟨by rfl, ?_⟩) ?_ ?_
          rotate_left
          · intro w'
            go_simp
            with_reducible rfl
          rotate_left
          · simp only [Act.put, List.setIfInBounds_toArray, List.set_cons_zero, List.set_cons_succ]
            rfl
          refine done_ (n := 0) (by kernel_rfl) ?_
          have hx2 := HX2.out _ HB2.out
          go_wp2
          go_roundg kq
          case measure => omega
          case rel =>
            refine ⟨x.f2, ss ++ [(⟨x.f0, x.f1, ⟨#[]⟩⟩ : S49)], css ++ [[.string x.f0, .slice B1 x.f1.length b1, .string ⟨#[]⟩]], rfl, ⟨by have h1 := HUP.out; have h2 := HN.out; omega⟩, ⟨by rw [List.length_append, List.length_append, HK.out.1]; rfl, fun j y c hy hc => ?_⟩, ⟨by rw [List.append_assoc]; exact HS2.out⟩, HR2, HB2⟩
            by_cases hj : j < ss.length
            · rw [List.getElem?_append_left hj] at hy
              rw [List.getElem?_append_left (by rw [HK.out.1]; exact hj)] at hc
              exact HK.out.2 j y c hy hc
            · rw [List.getElem?_append_right (by omega)] at hy
              rw [List.getElem?_append_right (by rw [HK.out.1]; omega), HK.out.1] at hc
              have hz : j - ss.length = 0 := by
                have := (List.getElem?_eq_some_iff.1 hy).1
                rw [List.length_singleton] at this
                omega
              rw [hz] at hy hc
              obtain rfl := Option.some.inj hy
              obtain rfl := Option.some.inj hc
              exact HK2.out
        · have dl : decide (0 < n) = false := decide_eq_false hlt
          have hss := HSS.out
          rw [show upF l0 gk n = [] by cases gk with | zero => rfl | succ k => (rw [upF, if_neg hlt]), List.append_nil] at hss
          subst hss
          clear hlt
          obtain ⟨hok, inner, ⟨hlen, ho⟩, hr⟩ := HR.out
          rcases ho with ⟨hv, hz⟩ | ⟨g, cap, cur, hv, hbg, hh, hic, hcm, hcs, htk⟩
          · subst hv
            have hz' : ss = [] := List.eq_nil_of_length_eq_zero (by rw [← HK.out.1]; exact hz)
            subst hz'
            clear hok hlen hr hz
            go_wp2_with (first
              | (go_at_call 58; refine (reverse_nil _).mono ?_; rintro e w2 ⟨⟨v, rfl⟩, rfl⟩)
              | (go_at_call 59; refine (HSH.out none 0 0 _ HB.out rfl ⟨rfl, by omega, fun hp => absurd hp (Nat.lt_irrefl 0)⟩ (Nat.le_refl 0)).mono ?_; rintro e w3 ⟨rfl, hb⟩; have HB3 := Aside0.mk (below_step HB.out hb); clear hb))
            go_ret2
            exact ⟨rfl, HB3.out⟩
          · subst hv
            have hseg : ∀ (k : Nat) c, css[k]? = some c → seg cur.toList 3 k = c := fun k c hk => by
              have h1 := (hr.2 k c hk).1
              have h2 : k < css.length := (List.getElem?_eq_some_iff.1 hk).1
              rw [← htk] at h1
              have h3 := seg_take cur.toList css.length k h2
              exact h3.symm.trans h1
            have hshape : ∀ k, k < css.length → ∃ s A m c t, seg cur.toList 3 k = [.string s, .slice A m c, .string t] := fun k hk => by
              obtain ⟨x, hx⟩ : ∃ x, ss[k]? = some x := ⟨_, List.getElem?_eq_getElem (show k < ss.length by rw [← HK.out.1]; exact hk)⟩
              obtain ⟨c, hc⟩ : ∃ c, css[k]? = some c := ⟨_, List.getElem?_eq_getElem hk⟩
              obtain ⟨A', c', e', -, -⟩ := k49_open (HK.out.2 k x c hx hc)
              exact ⟨_, _, _, _, _, (hseg k c hc).trans e'⟩
            have HRV := Aside0.mk (reverse_calls g css.length cap cur wr hh hcs hic (by have := HSL.out; have := HK.out.1; omega) hshape)
            have HSG := Aside0.mk hseg
            have HIC := Aside0.mk hic
            have HBG := Aside0.mk hbg
            clear hok hlen hr hseg hshape hh hic hcm hcs htk hbg
            go_wp2_with (first
              | (go_at_call 58; refine HRV.out.mono ?_; rintro e w2 ⟨⟨v, rfl⟩, cur', hh2, hsz, hsg, hgr⟩; have HB2 := Aside0.mk (HB.out.grown hgr HB.out.size (fun k' hk' => by injection hk' with hk'; have := HBG.out; omega)); have HC2 := Aside0.mk (rev_C HK.out.1 (by have := HSL.out; omega) HK.out.2 HSG.out hh2 hsg HB2.out); clear hh2 hsz hsg hgr)
              | (go_at_call 59; refine (HSH.out (some ⟨g, 0, none⟩) cap css.length _ HB2.out (by rw [List.length_reverse, HK.out.1]) HC2.out HIC.out).mono ?_; rintro e w3 ⟨rfl, hb⟩; have HB3 := Aside0.mk (below_step HB2.out hb); clear hb))
            go_ret2
            exact ⟨rfl, HB3.out⟩
    · rw [if_neg hp] at H
      cases H
  · rw [if_neg he] at H
    simp only [Option.some.injEq, Prod.mk.injEq] at H
    obtain ⟨rfl, rfl⟩ := H
    have heb : (e0 == 0) = false := beq_eq_false_iff_ne.2 he
    have heb2 : (e0 != 0) = true := bne_iff_ne.2 he
    clear hr0 hc0 A1 he
    go_enter Tryd.func23, Tryd.ntmps23
    go_wp2_with (first
      | (go_at_call 53; refine HCK.out.mono ?_; rintro e w1 ⟨rfl, hb⟩; have HB := Aside0.mk hb; clear hb))
    go_ret2
    exact ⟨rfl, HB.out⟩
end Go.Proofs.YtnalcjgefbelnaaDoor.Q
end
