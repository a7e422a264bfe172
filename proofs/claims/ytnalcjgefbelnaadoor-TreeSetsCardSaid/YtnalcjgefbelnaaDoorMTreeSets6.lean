/- Contracts of Go functions and plain facts, of several texts, one behind the other; no condition. -/
import Derived.Test.YtnalcjgefbelnaaDoorMTreeSets3
import Derived.Test.YtnalcjgefbelnaaDoorMTreeSets5
import Derived.Test.YtnalcjgefbelnaaDoorMTreeSets2
section
set_option linter.unusedSimpArgs false
set_option linter.unusedVariables false
namespace Go.Proofs.YtnalcjgefbelnaaDoor.Q
open Go.RowKit Go.Proofs.YtnalcjgefbelnaaDoorW.PrintWords Go.Proofs.YtnalcjgefbelnaaDoorW.PrintLast Go.Proofs.YtnalcjgefbelnaaDoorW.PrintMore
attribute [local go_sem] max2_int min2_int max_two min_two max_three min_three max_four min_four
def plcF (l0 : List S44) (a1 : Int) (a2 : ByteArray) : Int := idxP (isP a2) (rd_T44 l0 a1).f3
def tree_place.f (l0 : List S44) (a1 : Int) (a2 : ByteArray) : Option (Int × Int) := (tree_check.f l0 a1).bind fun e => if e = 0 then (if plcF l0 a1 a2 < 0 then some (0, 2) else some (plcF l0 a1 a2, 0)) else some (0, e)
theorem check_in {l0 : List S44} {a1 : Int} (h : tree_check.f l0 a1 = some 0) : 0 ≤ a1 ∧ a1 < l0.length := by
 unfold tree_check.f tree_Formed.f at h
 rw [Option.bind_some] at h
 split at h
 ·split at h
  ·exact absurd h (by decide)
  ·split at h
   ·exact absurd h (by decide)
   ·omega
 ·exact absurd h (by decide)
set_option maxHeartbeats 8000000 in
set_option maxRecDepth 100000 in
theorem tree_place.calls (A0 : Option Addr) (c0 : Nat) (l0 : List S44) (a1 : Int) (a2 : ByteArray) (r1 r2 : Int) (w : World) (hr0 : Kd.C k44 w A0 l0.length l0) (hc0 : l0.length ≤ c0) (h : tree_place.f l0 a1 a2 = some (r1, r2)) :
  Calls Tryd.prog 64 #[.slice A0 l0.length c0, .int .i64 a1, .string a2] w fun e w' => e = .returned (.tuple #[.int .i64 r1, .int .i64 r2]) ∧ Below w.heap.size w w' := by
 have hu44 := Tryd.underlying44
 unfold tree_place.f at h
 obtain ⟨e0, A1, H⟩ := Option.bind_eq_some_iff.mp h
 clear h
 have HCK := Aside0.mk (tree_check.calls A0 c0 l0 a1 e0 w hr0 hc0 A1)
 have mixed : Tryd.prog.follows Departure.mixedOrders = true := by kernel_rfl
 by_cases he : e0 = 0
 ·subst he
  rw [if_pos rfl] at H
  obtain ⟨h0, h1⟩ := check_in A1
  obtain ⟨ad, B1, b1, B3, b3, B4, b4, eA, _, _, _, _, _, _, _, hl3, hg3, _, _⟩ := at_T44 hr0 a1 h0 h1
  cases eA
  have HAT := Aside0.mk (fun (W : World) (hb : Below w.heap.size w W) => at_T44 (Kd.C_below hr0 hb) a1 h0 h1)
  have p1 : (0 ≤ a1) = True := eq_true h0
  have p2 : (a1 < (l0.length : Int)) = True := eq_true h1
  have HR0 := Aside0.mk hr0
  clear A1 hg3 hl3 hc0
  go_enter Tryd.func64, Tryd.ntmps64
  go_wp2_with (first
   | (go_at_call 53; refine HCK.out.mono ?_; rintro e w1 ⟨rfl, hb⟩; have HB := Aside0.mk hb; clear hb))
  obtain ⟨ad', B1, b1, B3, b3, B4, b4, eA, hx0, hx1, hx2, hx3, hx4, _, _, hl3, hg3, _, _⟩ := HAT.out _ HB.out
  cases eA
  have HIX := Aside0.mk (fun (gb : Nat) (W : World) (hb : Below w1.heap.size w1 W) (hh : W.heap[gb]? = some (.cells #[.string a2] 9 (0, 0))) => indexProp_calls a2 gb B3 b3 (rd_T44 l0 a1).f3 W (Kd.C_below hg3 hb) hh)
  have HPL := Aside0.mk (show plcF l0 a1 a2 = idxP (isP a2) (rd_T44 l0 a1).f3 from rfl)
  clear hr0
  refine start_ (n := 9) (S := fun w' => w'.cell? ⟨(ad.add (a1.toNat * 5)).block, (ad.add (a1.toNat * 5)).off + 3, none⟩ = some (.slice B3 (rd_T44 l0 a1).f3.length b3) ∧ Below w1.heap.size w1 w') (ds := []) #[false, false, false, false, false, false, false, false, false] (by kernel_rfl) rfl rfl ⟨hx3, below_drew1 (Below.refl w1.heap.size w1)⟩ (fun hHeld => ?_)
  refine pure_ (i := 0) (N := some 16) (v := ?_) (a' := ?_) #[true, false, false, false, false, false, false, false, false] rfl rfl (by kernel_rfl) (fun _ _ _ h => h) (Or.inl ⟨by rfl, ?_⟩) ?_ ?_
  rotate_left
  ·intro w'
   go_simp
   with_reducible rfl
  rotate_left
  ·simp only [Act.put, List.setIfInBounds_toArray, List.set_cons_zero, List.set_cons_succ]
   rfl
  refine pure_ (i := 1) (N := some 17) (v := ?_) (a' := ?_) #[true, true, false, false, false, false, false, false, false] rfl rfl (by kernel_rfl) (fun _ _ _ h => h) (Or.inl ⟨by rfl, ?_⟩) ?_ ?_
  rotate_left
  ·intro w'
   go_simp
   with_reducible rfl
  rotate_left
  ·simp only [Act.put, List.setIfInBounds_toArray, List.set_cons_zero, List.set_cons_succ]
   rfl
  refine pure_ (i := 2) (N := some 18) (v := ?_) (a' := ?_) #[true, true, true, false, false, false, false, false, false] rfl rfl (by kernel_rfl) (fun _ _ _ h => h) (Or.inl ⟨by rfl, ?_⟩) ?_ ?_
  rotate_left
  ·intro w'
   go_simp
   with_reducible rfl
  rotate_left
  ·simp only [Act.put, List.setIfInBounds_toArray, List.set_cons_zero, List.set_cons_succ]
   rfl
  refine pure_ (i := 3) (N := some 19) (v := ?_) (a' := ?_) #[true, true, true, true, false, false, false, false, false] rfl rfl (by kernel_rfl) (fun _ _ _ h => h) (Or.inl ⟨by rfl, ?_⟩) ?_ ?_
  rotate_left
  ·intro w'
   go_simp
   with_reducible rfl
  rotate_left
  ·simp only [Act.put, List.setIfInBounds_toArray, List.set_cons_zero, List.set_cons_succ]
   rfl
  refine pure_ (i := 5) (N := some 21) (v := ?_) (a' := ?_) #[true, true, true, true, false, true, false, false, false] rfl rfl (by kernel_rfl) (fun _ _ _ h => h) (Or.inl ⟨by rfl, ?_⟩) ?_ ?_
  rotate_left
  ·intro w'
   go_simp
   with_reducible rfl
  rotate_left
  ·simp only [Act.put, List.setIfInBounds_toArray, List.set_cons_zero, List.set_cons_succ]
   rfl
  refine take_ (i := 4) (N := some 20) (v := (.slice B3 (rd_T44 l0 a1).f3.length b3)) (a' := ?_) #[true, true, true, true, true, true, false, false, false] rfl rfl (by kernel_rfl) (fun _ _ _ h => h) (Or.inl ⟨by rfl, ?_⟩) hHeld ?_ ?_
  rotate_left
  rotate_left
  ·simp only [Act.put, List.setIfInBounds_toArray, List.set_cons_zero, List.set_cons_succ]
   rfl
  rotate_left
  ·rintro w' ⟨s1, s5⟩
   go_simp
  refine one_ (i := 6) (N := some 22) #[true, true, true, true, true, true, true, false, false] rfl rfl (by kernel_rfl) (by decide) (fun K hK => ?_)
  refine goes_ Tryd.func67 (by kernel_rfl) rfl #[.string a2] (by rfl) rfl rfl (by first | rfl | (simp only [List.map_toArray, List.map_cons, List.map_nil]; rfl)) ?_
  refine (namedP_calls a2 _).mono ?_
  rintro e w3 ⟨gb, rfl, hgb, hh, hb⟩
  have HH := Aside0.mk hh
  refine ⟨_, rfl, hK.out _ _ ⟨(hb.cell (World.block_lt_of_cell? _ _ hHeld.1)).trans hHeld.1, below_step hHeld.2 hb⟩ (fun hHeld => ?_)⟩
  clear hgb hh hb
  clear hK K
  simp only [Act.put, List.setIfInBounds_toArray, List.set_cons_zero, List.set_cons_succ]
  refine one_ (i := 7) (N := some 23) #[true, true, true, true, true, true, true, true, false] rfl rfl (by kernel_rfl) (by decide) (fun K hK => ?_)
  refine goes_ Tryd.func77 (by kernel_rfl) rfl #[.slice B3 (rd_T44 l0 a1).f3.length b3, .func (.func 78) #[] #[.pointer (some ⟨gb, 0, none⟩)]] (by rfl) rfl rfl (by first | rfl | (simp only [List.map_toArray, List.map_cons, List.map_nil]; rfl)) ?_
  refine (HIX.out gb _ hHeld.2 HH.out).mono ?_
  rintro e w4 ⟨rfl, hb⟩
  refine ⟨_, rfl, hK.out _ _ ⟨(hb.cell (World.block_lt_of_cell? _ _ hHeld.1)).trans hHeld.1, below_step hHeld.2 hb⟩ (fun hHeld => ?_)⟩
  clear hb
  clear hK K
  simp only [Act.put, List.setIfInBounds_toArray, List.set_cons_zero, List.set_cons_succ]
  refine pure_ (i := 8) (N := some 9) (v := ?_) (a' := ?_) #[true, true, true, true, true, true, true, true, true] rfl rfl (by kernel_rfl) (fun _ _ _ h => h) (Or.inl ⟨by rfl, ?_⟩) ?_ ?_
  rotate_left
  ·intro w'
   go_simp
   with_reducible rfl
  rotate_left
  ·simp only [Act.put, List.setIfInBounds_toArray, List.set_cons_zero, List.set_cons_succ]
   rfl
  refine done_ (n := 0) (by kernel_rfl) ?_
  by_cases hk : plcF l0 a1 a2 < 0
  ·rw [if_pos hk] at H
   simp only [Option.some.injEq, Prod.mk.injEq] at H
   obtain ⟨rfl, rfl⟩ := H
   have dk : decide (plcF l0 a1 a2 < 0) = true := decide_eq_true hk
   rw [HPL.out] at dk
   clear hk
   go_wp2
   go_ret2
   exact ⟨rfl, below_step HB.out hHeld.2⟩
  ·rw [if_neg hk] at H
   simp only [Option.some.injEq, Prod.mk.injEq] at H
   obtain ⟨rfl, rfl⟩ := H
   have dk : decide (plcF l0 a1 a2 < 0) = false := decide_eq_false hk
   rw [HPL.out] at dk
   clear hk
   go_wp2
   go_ret2
   exact ⟨by rw [HPL.out]; rfl, below_step HB.out hHeld.2⟩
 ·rw [if_neg he] at H
  simp only [Option.some.injEq, Prod.mk.injEq] at H
  obtain ⟨rfl, rfl⟩ := H
  have heb : (e0 == 0) = false := beq_eq_false_iff_ne.2 he
  have heb2 : (e0 != 0) = true := bne_iff_ne.2 he
  clear hr0 hc0 A1 he
  go_enter Tryd.func64, Tryd.ntmps64
  go_wp2_with (first
   | (go_at_call 53; refine HCK.out.mono ?_; rintro e w1 ⟨rfl, hb⟩; have HB := Aside0.mk hb; clear hb))
  go_ret2
  exact ⟨rfl, HB.out⟩
end Go.Proofs.YtnalcjgefbelnaaDoor.Q
end
section
namespace Go.Proofs.YtnalcjgefbelnaaDoor.Q
open Go.RowKit Go.Proofs.YtnalcjgefbelnaaDoorW.PrintWords Go.Proofs.YtnalcjgefbelnaaDoorW.PrintLast Go.Proofs.YtnalcjgefbelnaaDoorW.PrintMore
set_option linter.unusedVariables false
set_option linter.unusedSimpArgs false

attribute [local go_sem] max2_int min2_int max_two min_two max_three min_three max_four min_four
/-! ### tree_Next: function 27 -/
def tree_Next.j0 : Nat → List (S44) → Int → Int → Int → Bool → Option (ByteArray × Int)
 | 0, _, _, _, _, _ => none
 | k + 1, x0, x1, x8, x9, x17 => if x17 = true then (if 0 ≤ x1 then (if x1 < (x0.length : Int) then (if ((-1) + 1) = (((rd_T44 x0 x1).f3).length : Int) then (some ((⟨#[]⟩ : ByteArray), 0)) else (if 0 ≤ ((-1) + 1) then (if ((-1) + 1) < (((rd_T44 x0 x1).f3).length : Int) then (some ((rd_T53 ((rd_T44 x0 x1).f3) ((-1) + 1)).f0, 0)) else (none)) else (none))) else (none)) else (none)) else (if x9 = 0 then (if 0 ≤ x1 then (if x1 < (x0.length : Int) then (if (wrap64 (x8 + 1)) = (((rd_T44 x0 x1).f3).length : Int) then (some ((⟨#[]⟩ : ByteArray), 0)) else (if 0 ≤ (wrap64 (x8 + 1)) then (if (wrap64 (x8 + 1)) < (((rd_T44 x0 x1).f3).length : Int) then (some ((rd_T53 ((rd_T44 x0 x1).f3) (wrap64 (x8 + 1))).f0, 0)) else (none)) else (none))) else (none)) else (none)) else (some ((⟨#[]⟩ : ByteArray), x9)))
def tree_Next.f (k : Nat) (l0 : List (S44)) (a1 : Int) (a2 : ByteArray) : Option (ByteArray × Int) := (tree_place.f l0 a1 a2).bind fun bt28001 => (if bt28001.2 = 2 then (tree_Next.j0 k l0 a1 bt28001.1 bt28001.2 (a2.toList == ([] : List UInt8))) else (tree_Next.j0 k l0 a1 bt28001.1 bt28001.2 false))

end Go.Proofs.YtnalcjgefbelnaaDoor.Q
end
section
namespace Go.Proofs.YtnalcjgefbelnaaDoor.Q
open Go.RowKit Go.Proofs.YtnalcjgefbelnaaDoorW.PrintWords Go.Proofs.YtnalcjgefbelnaaDoorW.PrintLast Go.Proofs.YtnalcjgefbelnaaDoorW.PrintMore
set_option linter.unusedVariables false
set_option linter.unusedSimpArgs false

attribute [local go_sem] max2_int min2_int max_two min_two max_three min_three max_four min_four
/-! ### tree_Get: function 28 -/
def tree_Get.f (l0 : List (S44)) (a1 : Int) (a2 : ByteArray) : Option (List Int × Int) := (tree_place.f l0 a1 a2).bind fun bt29001 => (if bt29001.2 = 0 then (if 0 ≤ a1 then (if a1 < (l0.length : Int) then (if 0 ≤ bt29001.1 then (if bt29001.1 < (((rd_T44 l0 a1).f3).length : Int) then ((slices_Clone_byte_byte.f ((rd_T53 ((rd_T44 l0 a1).f3) bt29001.1).f1)).bind fun t29005 => (some (t29005, 0))) else (none)) else (none)) else (none)) else (none)) else (some (([] : List Int), bt29001.2)))

end Go.Proofs.YtnalcjgefbelnaaDoor.Q
end
section
namespace Go.Proofs.YtnalcjgefbelnaaDoor.Q
open Go.RowKit Go.Proofs.YtnalcjgefbelnaaDoorW.PrintWords Go.Proofs.YtnalcjgefbelnaaDoorW.PrintLast Go.Proofs.YtnalcjgefbelnaaDoorW.PrintMore
set_option linter.unusedVariables false
set_option linter.unusedSimpArgs false

attribute [local go_sem] max2_int min2_int max_two min_two max_three min_three max_four min_four
/-! ### tree_Children: function 33 -/
def tree_Children.l0 : Nat → Int → List Int → List (S44) → Int → Int → Option (List Int)
 | 0, _, _, _, _, _ => none
 | k + 1, x1, x4, x7, x8, x9 => if x9 < x8 then (if 0 ≤ x9 then (if x9 < (x7.length : Int) then (if x1 ≥ 0 then (if ((rd_T44 x7 x9).f2) = x1 then (if x4.length < 17592186044416 then (tree_Children.l0 k x1 (x4 ++ [x9]) x7 x8 (wrap64 (x9 + 1))) else (none)) else (tree_Children.l0 k x1 x4 x7 x8 (wrap64 (x9 + 1)))) else (tree_Children.l0 k x1 x4 x7 x8 (wrap64 (x9 + 1)))) else (none)) else (none)) else (some x4)
def tree_Children.f (k : Nat) (l0 : List (S44)) (a1 : Int) : Option (List Int) := tree_Children.l0 k a1 ([] : List Int) l0 (l0.length : Int) 0

end Go.Proofs.YtnalcjgefbelnaaDoor.Q
end
section
namespace Go.Proofs.YtnalcjgefbelnaaDoor.Q
open Go.RowKit Go.Proofs.YtnalcjgefbelnaaDoorW.PrintWords Go.Proofs.YtnalcjgefbelnaaDoorW.PrintLast Go.Proofs.YtnalcjgefbelnaaDoorW.PrintMore
set_option linter.unusedVariables false
set_option linter.unusedSimpArgs false

attribute [local go_sem] max2_int min2_int max_two min_two max_three min_three max_four min_four
/-! ### tinderref08_Get: function 29 -/
def tinderref08_Get.f (k : Nat) (l0 : List (S44)) (a1 : Int) (a2 : ByteArray) : Option (List Int × Int) := (tinderref08_wrong.f k l0 a1).bind fun t30001 => (if t30001 = 0 then (if 0 ≤ a1 then (if a1 < (l0.length : Int) then ((tinderref08_find.f k ((rd_T44 l0 a1).f3) a2).bind fun t30003 => (if t30003 < 0 then (some (([] : List Int), 2)) else (if 0 ≤ t30003 then (if t30003 < (((rd_T44 l0 a1).f3).length : Int) then ((tinderref04_Copy.f ((rd_T53 ((rd_T44 l0 a1).f3) t30003).f1)).bind fun t30006 => (some (t30006, 0))) else (none)) else (none)))) else (none)) else (none)) else (some (([] : List Int), t30001)))

end Go.Proofs.YtnalcjgefbelnaaDoor.Q
end
section
namespace Go.Proofs.YtnalcjgefbelnaaDoor.Q
open Go.RowKit Go.Proofs.YtnalcjgefbelnaaDoorW.PrintWords Go.Proofs.YtnalcjgefbelnaaDoorW.PrintLast Go.Proofs.YtnalcjgefbelnaaDoorW.PrintMore
set_option linter.unusedVariables false
set_option linter.unusedSimpArgs false

attribute [local go_sem] max2_int min2_int max_two min_two max_three min_three max_four min_four
/-! ### tinderref08_Next: function 30 -/
def tinderref08_Next.j0 : Nat → List (S44) → Int → Int → Bool → Option (ByteArray × Int)
 | 0, _, _, _, _ => none
 | k + 1, x0, x1, x9, x28 => if x28 = true then (some ((⟨#[]⟩ : ByteArray), 2)) else (if 0 ≤ x1 then (if x1 < (x0.length : Int) then (if (wrap64 (x9 + 1)) < (((rd_T44 x0 x1).f3).length : Int) then (if 0 ≤ (wrap64 (x9 + 1)) then (some ((rd_T53 ((rd_T44 x0 x1).f3) (wrap64 (x9 + 1))).f0, 0)) else (none)) else (some ((⟨#[]⟩ : ByteArray), 0))) else (none)) else (none))
def tinderref08_Next.f (k : Nat) (l0 : List (S44)) (a1 : Int) (a2 : ByteArray) : Option (ByteArray × Int) := (tinderref08_wrong.f k l0 a1).bind fun t31001 => (if t31001 = 0 then (if 0 ≤ a1 then (if a1 < (l0.length : Int) then ((tinderref08_find.f k ((rd_T44 l0 a1).f3) a2).bind fun t31003 => (if t31003 < 0 then (tinderref08_Next.j0 k l0 a1 t31003 (a2.toList != ([] : List UInt8))) else (tinderref08_Next.j0 k l0 a1 t31003 false))) else (none)) else (none)) else (some ((⟨#[]⟩ : ByteArray), t31001)))

end Go.Proofs.YtnalcjgefbelnaaDoor.Q
end
section
namespace Go.Proofs.YtnalcjgefbelnaaDoor.Q
open Go.RowKit Go.Proofs.YtnalcjgefbelnaaDoorW.PrintWords Go.Proofs.YtnalcjgefbelnaaDoorW.PrintLast Go.Proofs.YtnalcjgefbelnaaDoorW.PrintMore
set_option linter.unusedVariables false
set_option linter.unusedSimpArgs false

attribute [local go_sem] max2_int min2_int max_two min_two max_three min_three max_four min_four
/-! ### tinderref08_Children: function 34 -/
def tinderref08_Children.l0 : Nat → List (S44) → Int → List Int → Int → Option (List Int)
 | 0, _, _, _, _ => none
 | k + 1, x0, x1, x5, x6 => if x6 < (x0.length : Int) then (if x1 ≥ 0 then (if 0 ≤ x6 then (if ((rd_T44 x0 x6).f2) = x1 then (if x5.length < 17592186044416 then (tinderref08_Children.l0 k x0 x1 (x5 ++ [x6]) (wrap64 (x6 + 1))) else (none)) else (tinderref08_Children.l0 k x0 x1 x5 (wrap64 (x6 + 1)))) else (none)) else (tinderref08_Children.l0 k x0 x1 x5 (wrap64 (x6 + 1)))) else (some x5)
def tinderref08_Children.f (k : Nat) (l0 : List (S44)) (a1 : Int) : Option (List Int) := tinderref08_Children.l0 k l0 a1 ([] : List Int) 0

end Go.Proofs.YtnalcjgefbelnaaDoor.Q
end
section
namespace Go.Proofs.YtnalcjgefbelnaaDoor.Q
open Go.RowKit Go.Proofs.YtnalcjgefbelnaaDoorW.PrintWords Go.Proofs.YtnalcjgefbelnaaDoorW.PrintLast Go.Proofs.YtnalcjgefbelnaaDoorW.PrintMore
set_option linter.unusedVariables false
set_option linter.unusedSimpArgs false

attribute [local go_sem] max2_int min2_int max_two min_two max_three min_three max_four min_four
/-! ### tinderlaw08_ints: function 32 -/
def tinderlaw08_ints.l0 : Nat → List Int → List Int → Int → Option (Bool)
 | 0, _, _, _ => none
 | k + 1, x0, x1, x5 => if x5 < (x0.length : Int) then (if 0 ≤ x5 then (if x5 < (x1.length : Int) then (if (rd x0 x5) = (rd x1 x5) then (tinderlaw08_ints.l0 k x0 x1 (wrap64 (x5 + 1))) else (some false)) else (none)) else (none)) else (some true)
def tinderlaw08_ints.f (k : Nat) (l0 : List Int) (l1 : List Int) : Option (Bool) := if (l0.length : Int) = (l1.length : Int) then (tinderlaw08_ints.l0 k l0 l1 0) else (some false)

end Go.Proofs.YtnalcjgefbelnaaDoor.Q
end
section
set_option linter.unusedSimpArgs false
set_option linter.unusedVariables false
namespace Go.Proofs.YtnalcjgefbelnaaDoor.Q
open Go.RowKit Go.Proofs.YtnalcjgefbelnaaDoorW.PrintWords Go.Proofs.YtnalcjgefbelnaaDoorW.PrintLast
/-- What Get answers. -/
def getF (t : List S44) (n : Int) (s : ByteArray) : List Int × Int := if plcF t n s < 0 then ([], 2) else ((rd_T53 (rd_T44 t n).f3 (plcF t n s)).f1, 0)
/-- The name at a place, or none behind the last. -/
def nameF (l : List S53) (i : Int) : ByteArray := if i < l.length then (rd_T53 l i).f0 else ⟨#[]⟩
def nextF (t : List S44) (n : Int) (s : ByteArray) : ByteArray × Int := if plcF t n s < 0 ∧ s.toList ≠ [] then (⟨#[]⟩, 2) else (nameF (rd_T44 t n).f3 (plcF t n s + 1), 0)
theorem props_len {l : List S53} (h : propsF l = true) : l.length ≤ 16 := by
 unfold propsF at h
 simp only [Bool.and_eq_true, decide_eq_true_eq] at h
 exact h.1
end Go.Proofs.YtnalcjgefbelnaaDoor.Q
end
section
set_option linter.unusedSimpArgs false
set_option linter.unusedVariables false
namespace Go.Proofs.YtnalcjgefbelnaaDoor.Q
open Go.RowKit Go.Proofs.YtnalcjgefbelnaaDoorW.PrintWords Go.Proofs.YtnalcjgefbelnaaDoorW.PrintLast
/-- A device with the block of its properties' row. -/
def k44o : Kd (S44 × Option Nat) where
 sz := 5
 E := k44.E
 K := fun w x cs => k44.K w x.1 cs
 M := fun w base ok x cs => k44.M w base ok x.1 cs ∧ (cs[3]?).bind Value.ownBlock = x.2
 K_len := fun h => k44.K_len h
 K_one := fun h => k44.K_one h
 K_below := fun hb h => k44.K_below hb h
 K_of_M := fun h => k44.K_of_M h.1
 M_mono := fun hok h => ⟨k44.M_mono hok h.1, h.2⟩
 M_bound := fun h => ⟨k44.M_bound h.1, h.2⟩
 M_move := fun hm h => ⟨k44.M_move hm h.1, h.2⟩
 M_lower := fun hb h => ⟨k44.M_lower hb h.1, h.2⟩
def OY (ys : List (S44 × Option Nat)) (xs : List S44) : Prop := ys.map Prod.fst = xs ∧ ys.Pairwise (fun a b => ∀ k, a.2 = some k → b.2 ≠ some k)
theorem OY_nil : OY [] [] := ⟨rfl, List.Pairwise.nil⟩
theorem OY_len {ys : List (S44 × Option Nat)} {xs : List S44} (h : OY ys xs) : ys.length = xs.length := by rw [← h.1, List.length_map]
theorem R_typed {α : Type} {d : Kd α} {e b : Nat} {W : World} {ok : Nat → Prop} {v : Value} {xs : List α} (h : d.R e W b ok v xs) {p : Nat} (hp : v.ownBlock = some p) : ∃ cells, W.heap[p]? = some (.cells cells e (0, 0)) := by
 obtain ⟨h0, inner, ho, hr⟩ := h
 exact own_typed ho p hp
theorem own_ok {W : World} {base : Nat} {ok : Nat → Prop} {y : S44 × Option Nat} {c : List Value} (h : k44o.M W base ok y c) {k : Nat} (hk : y.2 = some k) : ok k ∧ k < W.heap.size := by
 obtain ⟨h1, h2⟩ := h
 obtain ⟨v1, v3, v4, rfl, g1, g3, g4⟩ := k44_openM h1
 have e : v3.ownBlock = some k := by rw [← hk, ← h2]; rfl
 exact ⟨g3.1 k e, ((Kd.R_bound g3).1 k e).2.2.1⟩
theorem OY_snoc {ys : List (S44 × Option Nat)} {xs : List S44} (h : OY ys xs) {e base : Nat} {W : World} {ok : Nat → Prop} {v : Value} (hR : Kd.R k44o e W base ok v ys) (x : S44) (o : Option Nat) (hok : ∀ k, ok k → some k ≠ o) : OY (ys ++ [(x, o)]) (xs ++ [x]) := by
 refine ⟨by rw [List.map_append, h.1]; rfl, List.pairwise_append.2 ⟨h.2, List.pairwise_singleton _ _, fun a ha b hb k hk hk2 => ?_⟩⟩
 rw [List.mem_singleton] at hb
 subst hb
 obtain ⟨-, inner, -, hr⟩ := hR
 obtain ⟨j, hj, rfl⟩ := List.mem_iff_getElem.1 ha
 have h1 := (own_ok (hr.2 j _ (List.getElem?_eq_getElem hj)) hk).1.1
 exact hok k h1 hk2.symm
/-- A tree of one's own whose devices' rows of properties are apart. -/
def OT (W : World) (base : Nat) (v : Value) (xs : List S44) : Prop := ∃ ys, OY ys xs ∧ Kd.R k44o 44 W base (fun _ => True) v ys
theorem OT_R {W : World} {base : Nat} {v : Value} {xs : List S44} (h : OT W base v xs) : Kd.R k44 44 W base (fun _ => True) v xs := by
 obtain ⟨ys, hy, h0, inner, ho, hr⟩ := h
 rw [OY_len hy] at ho
 refine ⟨h0, inner, ho, by rw [← OY_len hy]; exact hr.1, fun j p hj => ?_⟩
 rw [← hy.1, List.getElem?_map] at hj
 obtain ⟨y, hyj, rfl⟩ := Option.map_eq_some_iff.1 hj
 exact (hr.2 j y hyj).1
theorem OT_of_S {W : World} {base : Nat} {v : Value} {xs : List S44} (h : Kd.S k44 44 W base (fun _ => True) v xs) : OT W base v xs := by
 obtain ⟨f, h0, inner, ho, hr⟩ := h
 rw [List.length_zipIdx] at ho
 have hl : inner.length = xs.length * 5 := by have := hr.1; rw [List.length_zipIdx] at this; exact this
 obtain ⟨ys, hys⟩ : ∃ ys : List (S44 × Option Nat), ys = xs.zipIdx.map fun p => (p.1, (((inner.drop (p.2 * 5)).take 5)[3]?).bind Value.ownBlock) := ⟨_, rfl⟩
 have hlen : ys.length = xs.length := by rw [hys, List.length_map, List.length_zipIdx]
 have hget : ∀ (j : Nat) y, ys[j]? = some y → ∃ x, xs[j]? = some x ∧ y = (x, (((inner.drop (j * 5)).take 5)[3]?).bind Value.ownBlock) := by
  intro j y hj
  rw [hys, List.getElem?_map, List.getElem?_zipIdx, Nat.zero_add] at hj
  obtain ⟨p, hp, rfl⟩ := Option.map_eq_some_iff.1 hj
  obtain ⟨x, hx, rfl⟩ := Option.map_eq_some_iff.1 hp
  exact ⟨x, hx, rfl⟩
 have hown : ∀ (j : Nat) y k, ys[j]? = some y → y.2 = some k → f k = j := by
  intro j y k hj hk
  obtain ⟨x, hx, rfl⟩ := hget j y hj
  have hM := hr.2 j (x, j) (Kd.zip_at hx)
  obtain ⟨v1, v3, v4, he, g1, g3, g4⟩ := k44_openM (show k44.M W base _ x ((inner.drop (j * 5)).take 5) from hM)
  have e : v3.ownBlock = some k := by
   rw [← hk]
   show v3.ownBlock = ((((inner.drop (j * 5)).take 5)[3]?).bind Value.ownBlock)
   rw [he]
   rfl
  exact (g3.1 k e).2
 refine ⟨ys, ⟨?_, ?_⟩, h0, inner, by rw [hlen]; exact ho, by rw [hlen]; exact hl, fun j y hj => ?_⟩
 ·apply List.ext_getElem?
  intro j
  rw [List.getElem?_map]
  cases hj : ys[j]? with
  | none =>
   rw [List.getElem?_eq_none_iff, hlen] at hj
   rw [List.getElem?_eq_none hj]
   rfl
  | some y =>
   obtain ⟨x, hx, rfl⟩ := hget j y hj
   rw [hx]
   rfl
 ·refine List.pairwise_iff_getElem.2 fun i j hi hj hij k hk hk2 => ?_
  have h1 := hown i _ k (List.getElem?_eq_getElem hi) hk
  have h2 := hown j _ k (List.getElem?_eq_getElem hj) hk2
  omega
 ·obtain ⟨x, hx, rfl⟩ := hget j y hj
  have hM := hr.2 j (x, j) (Kd.zip_at hx)
  exact ⟨k44.M_mono (fun k hk => hk.1) hM, rfl⟩
theorem PR_of_R {α : Type} {d : Kd α} {e : Nat} {W : World} {base g n cap : Nat} {xs : List α} (w : World) (h : d.R e W base (fun _ => True) (.slice (some ⟨g, 0, none⟩) n cap) xs) : ∃ cur, PR d e w W base g n cap n xs cur := by
 obtain ⟨hn, -, -⟩ := Kd.R_reads' h
 obtain ⟨hok, inner, ⟨hlen, ho⟩, hr⟩ := h
 rcases ho with ⟨hv, _⟩ | ⟨g', cap', cur, hv, hb, hh, hic, hcm, hcs, htk⟩
 ·cases hv
 injection hv with ha _ hc
 injection ha with ha
 injection ha with hg'
 subst hg'; subst hc
 refine ⟨cur, hh, hb, hn.symm, by omega, hcm, hcs, fun j x hx => ?_⟩
 have hj : j < xs.length := (List.getElem?_eq_some_iff.1 hx).1
 rw [if_pos (by omega)]
 have h1 := hr.2 j x hx
 have h4 : seg cur.toList d.sz j = (inner.drop (j * d.sz)).take d.sz := by
  rw [← htk]
  unfold seg
  rw [List.drop_take, List.take_take]
  congr 1
  have := Nat.mul_le_mul_right d.sz (show j + 1 ≤ xs.length from hj)
  rw [Nat.add_mul, Nat.one_mul] at this
  omega
 rw [h4]
 exact d.M_mono (fun k hk e => hk.2 (by rw [e]; simp [Value.ownBlock])) h1
/-- A row of numbers is not the row of properties that is changed. -/
theorem keep_u32 {W W' : World} {base g : Nat} {v v3 : Value} {xs : List Int} {l3 : List S53} (h : Kd.R (Kd.int .u32) 66 W base (fun k => k ≠ g) v xs) (h3 : Kd.R k53 53 W base (fun k => k ≠ g) v3 l3)
  (hm : ∀ k, k < W.heap.size → k ≠ g → some k ≠ v3.ownBlock → W'.heap[k]? = W.heap[k]?) : Kd.R (Kd.int .u32) 66 W' base (fun k => k ≠ g) v xs := by
 cases hv : v3.ownBlock with
 | none => exact Kd.R_step h (fun k hk hl => hm k hl hk (by rw [hv]; exact Option.some_ne_none k))
 | some p =>
  obtain ⟨cells, hc⟩ := R_typed h3 hv
  exact Kd.R_mono (Kd.R_step (Kd.R_types h hc (by decide)) (fun k hk hl => hm k hl hk.1 (by rw [hv]; exact fun e => hk.2 (Option.some.inj e)))) (fun k hk => hk.1)
/-- Another device's properties are not the row that is changed. -/
theorem keep_props {W W' : World} {base g : Nat} {v v3 : Value} {xs l3 : List S53} (h : Kd.R k53 53 W base (fun k => k ≠ g) v xs) (h3 : Kd.R k53 53 W base (fun k => k ≠ g) v3 l3) (ha : ∀ k, v.ownBlock = some k → v3.ownBlock ≠ some k)
  (hm : ∀ k, k < W.heap.size → k ≠ g → some k ≠ v3.ownBlock → W'.heap[k]? = W.heap[k]?) : Kd.R k53 53 W' base (fun k => k ≠ g) v xs := by
 have key : Kd.R k53 53 W base (fun k => k ≠ g ∧ some k ≠ v3.ownBlock) v xs := by
  obtain ⟨h0, inner, ho, hr⟩ := h
  refine ⟨fun k hk => ⟨h0 k hk, fun e => ha k hk e.symm⟩, inner, ho, hr.imp_ (fun p c hp => k53.M_mono (fun k hk => ?_) (k53.M_bound hp))⟩
  obtain ⟨hk1, -, -, q, hq, cells, hcells⟩ := hk
  refine ⟨⟨hk1.1, fun e => ?_⟩, hk1.2⟩
  obtain ⟨cs2, hc2⟩ := R_typed h3 e.symm
  rw [hc2] at hcells
  have e2 : (53 : Nat) = q := by
   have h5 := Option.some.inj hcells
   injection h5
  exact (show ∀ q, q ∈ k53.E → (53 : Nat) ≠ q by decide) q hq e2
 exact Kd.R_mono (Kd.R_step key (fun k hk hl => hm k hl hk.1 hk.2)) (fun k hk => hk.1)
theorem seg5_one (cur : List Value) (i : Nat) (a b c d e v3 : Value) (h : seg cur 5 i = [a, b, c, d, e]) : seg (cur.set (i * 5 + 3) v3) 5 i = [a, b, c, v3, e] := by
 rw [seg_set _ 5 i 3 i _ (by decide), if_pos rfl, h]
 rfl
theorem seg5_else (cur : List Value) (i j : Nat) (v3 : Value) (h : j ≠ i) : seg (cur.set (i * 5 + 3) v3) 5 j = seg cur 5 j := by
 rw [seg_set _ 5 i 3 j _ (by decide), if_neg h]
/-- Device i of such a tree, lent: its cells, what they lead to, and how the tree stands when its properties' row is another. -/
theorem OT_lend {W : World} {base g n cap : Nat} {xs : List S44} (h : OT W base (.slice (some ⟨g, 0, none⟩) n cap) xs) (i : Nat) (hi : i < n) : ∃ v1 v3 v4 : Value,
  n = xs.length ∧ base ≤ g ∧ g < W.heap.size ∧ W.cell? ⟨g, i * 5 + 3, none⟩ = some v3 ∧ W.frozen? ⟨g, i * 5 + 3, none⟩ = false ∧
  Kd.R (Kd.int .u32) 66 W base (fun k => k ≠ g) v1 (rd_T44 xs (i : Int)).f1 ∧ Kd.R k53 53 W base (fun k => k ≠ g) v3 (rd_T44 xs (i : Int)).f3 ∧ Kd.R (Kd.int .u32) 66 W base (fun k => k ≠ g) v4 (rd_T44 xs (i : Int)).f4 ∧
  ∀ (W1 W' : World) (v3' : Value) (l3 : List S53), Kd.R k53 53 W1 base (fun k => k ≠ g) v3' l3 → (∀ k, k < W.heap.size → some k ≠ v3.ownBlock → W1.heap[k]? = W.heap[k]?) → (∀ k, v3'.ownBlock = some k → v3.ownBlock = some k ∨ W.heap.size ≤ k) →
   (W' = W1.setCell ⟨g, i * 5 + 3, none⟩ v3' ∨ W' = W1 ∧ v3' = v3) →
   OT W' base (.slice (some ⟨g, 0, none⟩) n cap) (xs.set i ⟨(rd_T44 xs (i : Int)).f0, (rd_T44 xs (i : Int)).f1, (rd_T44 xs (i : Int)).f2, l3, (rd_T44 xs (i : Int)).f4⟩) ∧ W1.grownBy W' (some g) := by
 obtain ⟨ys, hy, hR⟩ := h
 obtain ⟨cur, hh, hb, hl, hnc, hcm, hcs, hj⟩ := PR_of_R W hR
 have hlen := OY_len hy
 have hgl : g < W.heap.size := blk_lt hh
 have hyi := List.getElem?_eq_getElem (show i < ys.length by omega)
 have hM := hj i _ hyi
 rw [if_pos hi] at hM
 have hxi : (ys[i]'(by omega)).1 = rd_T44 xs (i : Int) := by
  have e1 : (ys.map Prod.fst)[i]? = some (ys[i]'(by omega)).1 := by rw [List.getElem?_map, hyi]; rfl
  rw [hy.1] at e1
  unfold rd_T44
  rw [Int.toNat_natCast, List.getD_eq_getElem?_getD, e1]
  rfl
 obtain ⟨hM1, hM2⟩ := hM
 rw [hxi] at hM1
 obtain ⟨v1, v3, v4, he, g1, g3, g4⟩ := k44_openM hM1
 have he' : seg cur.toList 5 i = [.string (rd_T44 xs (i : Int)).f0, v1, .int .i64 (rd_T44 xs (i : Int)).f2, v3, v4] := he
 rw [show seg cur.toList k44o.sz i = _ from he'] at hM2
 have hM3 : v3.ownBlock = (ys[i]'(by omega)).2 := hM2
 have hcs5 : cur.size = cap * 5 := hcs
 have hio : i * 5 + 3 < cur.size := by omega
 have hcell : W.cell? ⟨g, i * 5 + 3, none⟩ = some v3 := by
  have h1 := seg_get cur.toList 5 i 3 (by decide)
  rw [he'] at h1
  rw [blk_cell hh, ← Array.getElem?_toList]
  exact h1.symm
 refine ⟨v1, v3, v4, by omega, hb, hgl, hcell, blk_frozen hh _, g1, g3, g4, fun W1 W' v3' l3 hR3 hm1 hnew hW => ?_⟩
 -- the block g as it stood in W1
 have hg1 : some g ≠ v3.ownBlock := fun e => g3.1 g e.symm rfl
 have hh1 : W1.heap[g]? = some (.cells cur 44 (0, 0)) := by rw [hm1 g hgl hg1]; exact hh
 obtain ⟨cur', hh', hsz', ht', hgr⟩ : ∃ cur' : Array Value, W'.heap[g]? = some (.cells cur' 44 (0, 0)) ∧ cur'.size = cur.size ∧ cur'.toList = cur.toList.set (i * 5 + 3) v3' ∧ W1.grownBy W' (some g) := by
  rcases hW with rfl | ⟨rfl, rfl⟩
  ·obtain ⟨cur', a1, a2, a3, a4⟩ := put_row hh1 v3' hio
   exact ⟨cur', a1, a2, a3, a4⟩
  ·refine ⟨cur, hh1, rfl, ?_, ⟨rfl, rfl, rfl, Nat.le_refl _, fun _ _ _ => rfl⟩⟩
   have h1 := seg_get cur.toList 5 i 3 (by decide)
   rw [he'] at h1
   apply List.ext_getElem?
   intro q
   rw [List.getElem?_set]
   split
   ·rename_i hq
    subst hq
    rw [if_pos (by rw [Array.length_toList]; exact hio)]
    exact h1.symm
   ·rfl
 have hm : ∀ k, k < W.heap.size → k ≠ g → some k ≠ v3.ownBlock → W'.heap[k]? = W.heap[k]? := fun k h1 h2 h3 => by
  rw [← hm1 k h1 h3]
  by_cases hk : k < W1.heap.size
  ·exact hgr.block k hk (fun e => h2 (Option.some.inj e))
  ·have e1 := hm1 k h1 h3
   rw [Array.getElem?_eq_none (by omega)] at e1
   rw [Array.getElem?_eq_getElem h1] at e1
   cases e1
 have hR3' : Kd.R k53 53 W' base (fun k => k ≠ g) v3' l3 := Kd.R_step hR3 (fun k hk hlt => hgr.block k hlt (fun e => hk (Option.some.inj e)))
 refine ⟨⟨ys.set i (⟨(rd_T44 xs (i : Int)).f0, (rd_T44 xs (i : Int)).f1, (rd_T44 xs (i : Int)).f2, l3, (rd_T44 xs (i : Int)).f4⟩, v3'.ownBlock), ⟨?_, ?_⟩, ?_⟩, hgr⟩
 ·rw [List.map_set, hy.1]
 ·refine List.pairwise_iff_getElem.2 fun p q hp hq hpq k hk hk2 => ?_
  rw [List.length_set] at hp hq
  have hpair := List.pairwise_iff_getElem.1 hy.2
  have hlt : ∀ (r : Nat) (hr : r < ys.length), (ys[r]).2 = some k → k < W.heap.size := fun r hr e => by
   have h1 := hj r _ (List.getElem?_eq_getElem hr)
   rw [if_pos (by omega)] at h1
   exact (own_ok h1 e).2
  rw [List.getElem_set] at hk hk2
  split at hk
  ·rename_i e1
   subst e1
   rw [if_neg (by omega)] at hk2
   rcases hnew k hk with h1 | h1
   ·rw [hM3] at h1
    exact hpair i q (by omega) (by omega) hpq k h1 hk2
   ·have := hlt q (by omega) hk2
    omega
  ·split at hk2
   ·rename_i e1
    subst e1
    rcases hnew k hk2 with h1 | h1
    ·rw [hM3] at h1
     exact hpair p i (by omega) (by omega) hpq k hk h1
    ·have := hlt p (by omega) hk
     omega
   ·exact hpair p q (by omega) (by omega) hpq k hk hk2
 ·refine PR_end (w := W) ⟨hh', hb, by rw [List.length_set]; exact hl, hnc, hcm, by rw [hsz']; exact hcs, fun j y hyj => ?_⟩
  have hjl : j < n := by
   have := (List.getElem?_eq_some_iff.1 hyj).1
   rw [List.length_set] at this
   omega
  rw [if_pos hjl]
  by_cases hji : j = i
  ·subst hji
   rw [List.getElem?_set_self (by omega)] at hyj
   obtain rfl := Option.some.inj hyj
   have hs1 : seg cur'.toList 5 j = [.string (rd_T44 xs (j : Int)).f0, v1, .int .i64 (rd_T44 xs (j : Int)).f2, v3', v4] := by rw [ht']; exact seg5_one _ _ _ _ _ _ _ _ he'
   rw [show seg cur'.toList k44o.sz j = _ from hs1]
   exact ⟨k44_mkM W' base (fun k => k ≠ g) ⟨(rd_T44 xs (j : Int)).f0, (rd_T44 xs (j : Int)).f1, (rd_T44 xs (j : Int)).f2, l3, (rd_T44 xs (j : Int)).f4⟩ (keep_u32 g1 g3 hm) hR3' (keep_u32 g4 g3 hm), rfl⟩
  ·rw [List.getElem?_set_ne (fun e => hji e.symm)] at hyj
   have hMj := hj j y hyj
   rw [if_pos hjl] at hMj
   have hs2 : seg cur'.toList 5 j = seg cur.toList 5 j := by rw [ht']; exact seg5_else _ _ _ _ hji
   rw [show seg cur'.toList k44o.sz j = seg cur.toList k44o.sz j from hs2]
   obtain ⟨m1, m2⟩ := hMj
   obtain ⟨u1, u3, u4, hej, e1, e3, e4⟩ := k44_openM m1
   have hm2 : u3.ownBlock = y.2 := by rw [← m2, hej]; rfl
   have ha3 : ∀ k, u3.ownBlock = some k → v3.ownBlock ≠ some k := fun k hk hk2 => by
    rw [hm2] at hk
    rw [hM3] at hk2
    have hpair := List.pairwise_iff_getElem.1 hy.2
    have hyj2 : ys[j]'(by omega) = y := by
     rw [List.getElem?_eq_getElem (show j < ys.length by omega)] at hyj
     exact Option.some.inj hyj
    rcases Nat.lt_or_gt_of_ne hji with hlt | hlt
    ·exact hpair j i (by omega) (by omega) hlt k (by rw [hyj2]; exact hk) hk2
    ·exact hpair i j (by omega) (by omega) hlt k hk2 (by rw [hyj2]; exact hk)
   refine ⟨?_, m2⟩
   rw [hej]
   exact k44_mkM W' base (fun k => k ≠ g) y.1 (keep_u32 e1 g3 hm) (keep_props e3 g3 ha3 hm) (keep_u32 e4 g3 hm)
end Go.Proofs.YtnalcjgefbelnaaDoor.Q
end
section
set_option linter.unusedSimpArgs false
set_option linter.unusedVariables false
namespace Go.Proofs.YtnalcjgefbelnaaDoor.Q
open Go.RowKit Go.Proofs.YtnalcjgefbelnaaDoorW.PrintWords Go.Proofs.YtnalcjgefbelnaaDoorW.PrintLast
theorem cell_same {W W' : World} {g o : Nat} (h : W'.heap[g]? = W.heap[g]?) : W'.cell? ⟨g, o, none⟩ = W.cell? ⟨g, o, none⟩ := by
 unfold World.cell?
 rw [h]
theorem OT_lower {W : World} {base base' : Nat} {v : Value} {xs : List S44} (h : OT W base v xs) (hb : base' ≤ base) : OT W base' v xs := by
 obtain ⟨ys, hy, hR⟩ := h
 exact ⟨ys, hy, Kd.R_lower hR hb⟩
/-- The bytes of one property put anew. -/
theorem props_put {W W8 : World} {base g gp n cap : Nat} {q : List S53} (h3 : Kd.R k53 53 W base (fun k => k ≠ g) (.slice (some ⟨gp, 0, none⟩) n cap) q) (hgl : g < W.heap.size) (hb : Below W.heap.size W W8) (kk : Nat) (hk : kk < n) {v8 : Value} {d : List Int} (h8 : Kd.R (Kd.int .u8) 5 W8 W.heap.size (fun _ => True) v8 d) (hbase : base ≤ W.heap.size) :
  (∃ A c, W8.cell? ⟨gp, kk * 2 + 1, none⟩ = some (.slice A (rd_T53 q (kk : Int)).f1.length c)) ∧ W8.frozen? ⟨gp, kk * 2 + 1, none⟩ = false ∧ Kd.R k53 53 (W8.setCell ⟨gp, kk * 2 + 1, none⟩ v8) base (fun k => k ≠ g) (.slice (some ⟨gp, 0, none⟩) n cap) (q.set kk ⟨(rd_T53 q (kk : Int)).f0, d⟩) ∧
  (∀ k, k < W.heap.size → some k ≠ (Value.slice (some ⟨gp, 0, none⟩) n cap).ownBlock → (W8.setCell ⟨gp, kk * 2 + 1, none⟩ v8).heap[k]? = W.heap[k]?) ∧ W8.grownBy (W8.setCell ⟨gp, kk * 2 + 1, none⟩ v8) (some gp) ∧ base ≤ gp := by
 have hgo : (Value.slice (some ⟨gp, 0, none⟩) n cap).ownBlock = some gp := by simp [Value.ownBlock]
 have hgp : gp < W.heap.size := ((Kd.R_bound h3).1 gp hgo).2.2.1
 have hbg : base ≤ gp := Kd.R_base h3 gp hgo
 have h38 := Kd.R_below h3 hb
 obtain ⟨c, hcl, hM, hcc, hfr⟩ := Kd.R_elem h38 z53 (kk : Int) (by omega) (by omega)
 obtain ⟨v1, rfl, g1⟩ := k53_openM hM
 obtain ⟨A1, c1, rfl⟩ := Kd.R_slice g1
 have hval := Kd.R_val h8
 obtain ⟨s1, s2⟩ := Kd.R_seg h38 (kk : Int) (by omega) (by omega) (seg := [v8]) (j := 1) hcl hcc (by show 1 + 1 ≤ 2; omega) (x' := ⟨(rd_T53 q (kk : Int)).f0, d⟩) (okp := fun k => k ≠ g ∧ k ≠ gp)
  (k53_mkM W8 base (fun k => k ≠ g ∧ k ≠ gp) ⟨(rd_T53 q (kk : Int)).f0, d⟩ (Kd.R_lower (Kd.R_mono (Kd.R_bound h8) (fun k hk => ⟨by have := hk.2.1; omega, by have := hk.2.1; omega⟩)) hbase)) (fun k hk => hk)
 refine ⟨⟨A1, c1, hcc 1 _ rfl⟩, hfr 1, s1, fun k hk1 hk2 => ?_, s2, hbg⟩
 have h1 := s2.block k (Nat.lt_of_lt_of_le hk1 hb.size) (fun e => hk2 (by rw [hgo]; exact e))
 exact h1.trans (hb.block k hk1)
end Go.Proofs.YtnalcjgefbelnaaDoor.Q
end
section
set_option linter.unusedSimpArgs false
set_option linter.unusedVariables false
namespace Go.Proofs.YtnalcjgefbelnaaDoor.Q
open Go.RowKit Go.Proofs.YtnalcjgefbelnaaDoorW.PrintWords Go.Proofs.YtnalcjgefbelnaaDoorW.PrintLast Go.Proofs.YtnalcjgefbelnaaDoorW.PrintMore
attribute [local go_sem] max2_int min2_int max_two min_two max_three min_three max_four min_four
theorem frozen_same {W W' : World} {g o : Nat} (h : W'.heap[g]? = W.heap[g]?) : W'.frozen? ⟨g, o, none⟩ = W.frozen? ⟨g, o, none⟩ := by
 unfold World.frozen?
 rw [h]
/-- A device's properties, one of them put. -/
def putF (l : List S53) (k : Int) (s : ByteArray) (d : List Int) : List S53 := if k < 0 then l ++ [(⟨s, d⟩ : S53)] else l.set k.toNat ⟨(rd_T53 l k).f0, d⟩
def withF (t : List S44) (n : Int) (l : List S53) : List S44 := t.set n.toNat ⟨(rd_T44 t n).f0, (rd_T44 t n).f1, (rd_T44 t n).f2, l, (rd_T44 t n).f4⟩
def tree_Set.f (l0 : List S44) (a1 : Int) (a2 : ByteArray) (l3 : List Int) : Option (List S44 × Int) := (tree_check.f l0 a1).bind fun e => if e = 0 then (if namedF a2 = true then (if (256 : Int) < (l3.length : Int) then some ([], 3) else if plcF l0 a1 a2 < 0 ∧ ((rd_T44 l0 a1).f3.length : Int) = 16 then some ([], 22) else if shortT l0 = true ∧ (rd_T44 l0 a1).f3.length ≤ 16 then some (withF l0 a1 (putF (rd_T44 l0 a1).f3 (plcF l0 a1 a2) a2 l3), 0) else none) else some ([], 1)) else some ([], e)
theorem set_app (l : List S53) (s : ByteArray) (d : List Int) : (l ++ [(⟨s, []⟩ : S53)]).set l.length ⟨s, d⟩ = l ++ [(⟨s, d⟩ : S53)] := by
 rw [List.set_append_right _ _ (Nat.le_refl _), Nat.sub_self]
 rfl
theorem rd53_app (l : List S53) (x : S53) : rd_T53 (l ++ [x]) (l.length : Int) = x := by
 unfold rd_T53
 rw [Int.toNat_natCast, List.getD_eq_getElem?_getD, List.getElem?_append_right (Nat.le_refl _), Nat.sub_self]
 rfl
theorem rd44_set (t : List S44) (i : Nat) (x : S44) (h : i < t.length) : rd_T44 (t.set i x) (i : Int) = x := by
 unfold rd_T44
 rw [Int.toNat_natCast, List.getD_eq_getElem?_getD, List.getElem?_set_self h]
 rfl
set_option maxHeartbeats 16000000 in
set_option maxRecDepth 100000 in
theorem tree_Set.calls (A0 : Option Addr) (c0 : Nat) (l0 : List S44) (a1 : Int) (a2 : ByteArray) (A3 : Option Addr) (c3 : Nat) (l3 : List Int) (r1 : List S44) (r2 : Int) (w : World) (hr0 : Kd.C k44 w A0 l0.length l0) (hc0 : l0.length ≤ c0) (hr3 : Kd.C (Kd.int .u8) w A3 l3.length l3) (hc3 : l3.length ≤ c3) (h : tree_Set.f l0 a1 a2 l3 = some (r1, r2)) :
  Calls Tryd.prog 35 #[.slice A0 l0.length c0, .int .i64 a1, .string a2, .slice A3 l3.length c3] w fun e w' => ∃ v0_ : Value, e = .returned (.tuple #[v0_, .int .i64 r2]) ∧ Kd.R k44 44 w' w.heap.size (fun _ => True) v0_ r1 ∧ Below w.heap.size w w' := by
 have mixed : Tryd.prog.follows Departure.mixedOrders = true := by kernel_rfl
 have hu44 := Tryd.underlying44
 have hu53 := Tryd.underlying53
 unfold tree_Set.f at h
 obtain ⟨e0, E1, H⟩ := Option.bind_eq_some_iff.mp h
 clear h
 have HNM := Aside0.mk (fun (W : World) => prop_Named.calls 400 a2 (namedF a2) W (named_eq 400 (by decide) a2))
 have HC0 := Aside0.mk hr0
 have HK0 := Aside0.mk hc0
 have HC3 := Aside0.mk hr3
 have HK3 := Aside0.mk hc3
 by_cases he : e0 = 0
 ·subst he
  rw [if_pos rfl] at H
  obtain ⟨h0, h1⟩ := check_in E1
  obtain ⟨i, rfl⟩ : ∃ i : Nat, a1 = (i : Int) := ⟨a1.toNat, by omega⟩
  have HIL := Aside0.mk (show i < l0.length by omega)
  have hpr := idxP_range (isP a2) (rd_T44 l0 (i : Int)).f3
  have HPR := Aside0.mk (show -1 ≤ plcF l0 (i : Int) a2 ∧ plcF l0 (i : Int) a2 < (rd_T44 l0 (i : Int)).f3.length from hpr)
  have p1 : (0 ≤ (i : Int)) = True := eq_true h0
  have p2 : ((i : Int) < (l0.length : Int)) = True := eq_true h1
  have p3 : (i < l0.length) = True := eq_true HIL.out
  have hpl := tree_place.calls A0 c0 l0 (i : Int) a2 (if plcF l0 (i : Int) a2 < 0 then 0 else plcF l0 (i : Int) a2) (if plcF l0 (i : Int) a2 < 0 then 2 else 0) w hr0 hc0 (by
   unfold tree_place.f
   rw [E1, Option.bind_some, if_pos rfl]
   split <;> rfl)
  obtain ⟨adz, D1, d1, D3, d3, D4, d4, eA, -, -, -, hz3, -, -, -, -, -, -, -⟩ := at_T44 hr0 (i : Int) h0 h1
  cases eA
  rw [Int.toNat_natCast] at hz3
  have HZ3 := Aside0.mk hz3
  clear hr0 hc0 hr3 hc3 E1 hpr h0 h1 hz3
  cases hn : namedF a2
  ·rw [if_neg (by rw [hn]; decide)] at H
   simp only [Option.some.injEq, Prod.mk.injEq] at H
   obtain ⟨rfl, rfl⟩ := H
   rw [hn] at HNM
   by_cases hp : plcF l0 (i : Int) a2 < 0
   ·rw [if_pos hp, if_pos hp] at hpl
    have HPL := Aside0.mk hpl
    clear hpl hp hn
    go_enter Tryd.func35, Tryd.ntmps35
    go_wp2_with (first
     | (go_at_call 64; (with_reducible refine HPL.out.mono ?_); rintro e w1 ⟨rfl, hb⟩; have HB := Aside0.mk hb; clear hb)
     | (go_at_call 41; (with_reducible refine (HNM.out _).mono ?_); rintro e w2 ⟨rfl, hb⟩; replace HB := Aside0.mk (below_step HB.out hb); clear hb))
    go_ret2
    exact ⟨_, rfl, Kd.R_nil _ _ _ _ _, HB.out⟩
   ·rw [if_neg hp, if_neg hp] at hpl
    have HPL := Aside0.mk hpl
    clear hpl hp hn
    go_enter Tryd.func35, Tryd.ntmps35
    go_wp2_with (first
     | (go_at_call 64; (with_reducible refine HPL.out.mono ?_); rintro e w1 ⟨rfl, hb⟩; have HB := Aside0.mk hb; clear hb)
     | (go_at_call 41; (with_reducible refine (HNM.out _).mono ?_); rintro e w2 ⟨rfl, hb⟩; replace HB := Aside0.mk (below_step HB.out hb); clear hb))
    go_ret2
    exact ⟨_, rfl, Kd.R_nil _ _ _ _ _, HB.out⟩
  ·rw [if_pos hn] at H
   rw [hn] at HNM
   clear hn
   by_cases h4 : (256 : Int) < (l3.length : Int)
   ·rw [if_pos h4] at H
    simp only [Option.some.injEq, Prod.mk.injEq] at H
    obtain ⟨rfl, rfl⟩ := H
    have d4 : decide ((256 : Int) < (l3.length : Int)) = true := decide_eq_true h4
    by_cases hp : plcF l0 (i : Int) a2 < 0
    ·rw [if_pos hp, if_pos hp] at hpl
     have HPL := Aside0.mk hpl
     clear hpl hp h4
     go_enter Tryd.func35, Tryd.ntmps35
     go_wp2_with (first
      | (go_at_call 64; (with_reducible refine HPL.out.mono ?_); rintro e w1 ⟨rfl, hb⟩; have HB := Aside0.mk hb; clear hb)
      | (go_at_call 41; (with_reducible refine (HNM.out _).mono ?_); rintro e w2 ⟨rfl, hb⟩; replace HB := Aside0.mk (below_step HB.out hb); clear hb))
     go_ret2
     exact ⟨_, rfl, Kd.R_nil _ _ _ _ _, HB.out⟩
    ·rw [if_neg hp, if_neg hp] at hpl
     have HPL := Aside0.mk hpl
     clear hpl hp h4
     go_enter Tryd.func35, Tryd.ntmps35
     go_wp2_with (first
      | (go_at_call 64; (with_reducible refine HPL.out.mono ?_); rintro e w1 ⟨rfl, hb⟩; have HB := Aside0.mk hb; clear hb)
      | (go_at_call 41; (with_reducible refine (HNM.out _).mono ?_); rintro e w2 ⟨rfl, hb⟩; replace HB := Aside0.mk (below_step HB.out hb); clear hb))
     go_ret2
     exact ⟨_, rfl, Kd.R_nil _ _ _ _ _, HB.out⟩
   ·rw [if_neg h4] at H
    have d4 : decide ((256 : Int) < (l3.length : Int)) = false := decide_eq_false h4
    have HCL := Aside0.mk (fun (W : World) (hb : Below w.heap.size w W) => slices_Clone_byte_byte.calls A3 c3 l3 l3 W (Kd.C_below HC3.out hb) HK3.out (by unfold slices_Clone_byte_byte.f; rw [if_pos (by omega)]))
    clear h4
    by_cases hp : plcF l0 (i : Int) a2 < 0
    ·rw [if_pos hp, if_pos hp] at hpl
     have HPL := Aside0.mk hpl
     clear hpl
     by_cases h16 : ((rd_T44 l0 (i : Int)).f3.length : Int) = 16
     ·rw [if_pos ⟨hp, h16⟩] at H
      simp only [Option.some.injEq, Prod.mk.injEq] at H
      obtain ⟨rfl, rfl⟩ := H
      have d16 : (((rd_T44 l0 (i : Int)).f3.length : Int) == 16) = true := beq_iff_eq.2 h16
      clear hp h16
      go_enter Tryd.func35, Tryd.ntmps35
      go_wp2_with (first
       | (go_at_call 64; (with_reducible refine HPL.out.mono ?_); rintro e w1 ⟨rfl, hb⟩; have HB := Aside0.mk hb; clear hb; have hz3 := (HB.out.cell (World.block_lt_of_cell? _ _ HZ3.out)).trans HZ3.out)
       | (go_at_call 41; (with_reducible refine (HNM.out _).mono ?_); rintro e w2 ⟨rfl, hb⟩; replace HB := Aside0.mk (below_step HB.out hb); (have hz3n := (hb.cell (World.block_lt_of_cell? _ _ hz3)).trans hz3); clear hb hz3))
      go_ret2
      exact ⟨_, rfl, Kd.R_nil _ _ _ _ _, HB.out⟩
     ·rw [if_neg (fun h => h16 h.2)] at H
      have d16 : (((rd_T44 l0 (i : Int)).f3.length : Int) == 16) = false := beq_eq_false_iff_ne.2 h16
      by_cases hs : shortT l0 = true ∧ (rd_T44 l0 (i : Int)).f3.length ≤ 16
      ·rw [if_pos hs] at H
       simp only [Option.some.injEq, Prod.mk.injEq] at H
       obtain ⟨hR1, rfl⟩ := H
       have HR1 := Aside0.mk hR1
       have HP := Aside0.mk hp
       have HCP := Aside0.mk (show tree_Copy.f l0 = some l0 by unfold tree_Copy.f; rw [if_pos hs.1])
       have H16 := Aside0.mk hs.2
       clear hp h16 hs hR1
       go_enter Tryd.func35, Tryd.ntmps35
       go_wp2_with (first
        | (go_at_call 64; (with_reducible refine HPL.out.mono ?_); rintro e w1 ⟨rfl, hb⟩; have HB := Aside0.mk hb; clear hb; have hz3 := (HB.out.cell (World.block_lt_of_cell? _ _ HZ3.out)).trans HZ3.out)
        | (go_at_call 41; (with_reducible refine (HNM.out _).mono ?_); rintro e w2 ⟨rfl, hb⟩; replace HB := Aside0.mk (below_step HB.out hb); (have hz3n := (hb.cell (World.block_lt_of_cell? _ _ hz3)).trans hz3); clear hb hz3)
        | (go_at_call 15; (with_reducible refine (tree_Copy.calls _ c0 l0 l0 _ (Kd.C_below HC0.out HB.out) HK0.out HCP.out).mono ?_); rintro e w5 ⟨v5, rfl, ho, hb⟩; replace ho := OT_lower (OT_of_S ho) HB.out.size; have HB5 := Aside0.mk (below_step HB.out hb); obtain ⟨g, cap, rfl, -, -, -⟩ := Kd.R_form (OT_R ho) (by have := HIL.out; omega); obtain ⟨v1, v3, v4, -, hbg, hgl, hc3, hf3, g1, g3, g4, hset⟩ := OT_lend ho i HIL.out; obtain ⟨B3, b3, rfl⟩ := Kd.R_slice g3; have HSET := Aside0.mk hset; have G3 := Aside0.mk g3; have HGL5 := Aside0.mk hgl; have HBG := Aside0.mk hbg; clear hb ho g1 g3 g4 hset hgl hbg; clear hz3n)
        | ((with_reducible refine gate_builtin (b := .append) (xs := #[.tmp 63, .tmp 66]) rfl ?_); at_builtin; refine Kd.R_append k53 (w0 := w) w.heap.size rfl (.tmp 63) (.tmp 66) 42 53 (.agg #[(.string ⟨#[]⟩), (.slice none 0 0)]) 40 rfl Tryd.underlying42 info53 rfl (by decide) (by decide) (.slice B3 (rd_T44 l0 (i : Int)).f3.length b3) (rd_T44 l0 (i : Int)).f3 (⟨a2, []⟩ : S53) [.string a2, .slice none 0 0] (fun k => k ≠ g) (fun _ => False) rfl rfl (k53_mkM _ _ _ (⟨a2, []⟩ : S53) (Kd.R_nil _ _ _ _ _)) (fun _ hk => hk.elim) (fun k hk => by have := HGL5.out; omega) G3.out HB5.out HB5.out.size (by have := H16.out; omega) ?_; intro v6 w6 ho6 hb6 hg6 hat6; obtain ⟨A6, c6, rfl⟩ := Kd.R_slice ho6; have hgn : w6.heap[g]? = w5.heap[g]? := hg6.block g HGL5.out (fun e => (G3.out.1 g e.symm) rfl); have hc6 := (cell_same (o := i * 5 + 3) hgn).trans hc3; have hf6 : w6.frozen? ⟨g, i * 5 + 3, none⟩ = false := (frozen_same (o := i * 5 + 3) hgn).trans hf3; have HO6 := Aside0.mk ho6; have HB6 := Aside0.mk hb6; have HG6 := Aside0.mk hg6; have HAT6 := Aside0.mk hat6; clear ho6 hb6 hg6 hat6 hgn hc3 hf3)
        | ((with_reducible refine gate_store (t := 42) (p := 69) rfl ?_); refine store_event (t := 42) (p := 69) (v := ?vo) (w1 := w6.setCell ⟨g, i * 5 + 3, none⟩ (.slice A6 ((rd_T44 l0 (i : Int)).f3 ++ [(⟨a2, []⟩ : S53)]).length c6)) ?hg ?ho ?hn ?hr ?_; (case ho => rfl); (case hg => rfl); (case hn => rfl); (case hr => first | (go_simp; done) | (go_simp; rfl)); intro w7 hw7; have HW7 := Aside0.mk hw7; clear hw7 hc6 hf6))
       obtain ⟨hot7, hgr7⟩ := HSET.out w6 w7 _ _ HO6.out (fun k hk hk2 => HG6.out.block k hk (fun e => hk2 e)) (fun k hk => by rcases HAT6.out with e | ⟨b, e, hb⟩; exact .inl (by rw [← e]; exact hk); exact .inr (by rw [e] at hk; injection hk with hk; omega)) (.inl HW7.out)
       have HB7 := Aside0.mk (HB6.out.grown hgr7 HB6.out.size (fun k hk => by injection hk with hk; have := HBG.out; omega))
       obtain ⟨u1, u3, u4, -, -, hgl7, hcp, hfp, -, gp3, -, hset7⟩ := OT_lend hot7 i (by have := HIL.out; omega)
       rw [rd44_set l0 i _ HIL.out] at gp3 hset7
       obtain ⟨kk, hkk⟩ : ∃ kk, kk = (rd_T44 l0 (i : Int)).f3.length := ⟨_, rfl⟩
       obtain ⟨gp, bp, rfl, -, -, -⟩ := Kd.R_form gp3 (by simp)
       have hset2 := Aside0.mk hset7
       have GP := Aside0.mk gp3
       have HGL := Aside0.mk hgl7
       have HBS := Aside0.mk HB7.out.size
       obtain ⟨np, hnp⟩ : ∃ np, np = ((rd_T44 l0 (i : Int)).f3 ++ [(⟨a2, []⟩ : S53)]).length := ⟨_, rfl⟩
       have hnp2 : np = kk + 1 := by rw [hnp, hkk]; simp
       have HKK := Aside0.mk (show kk < ((rd_T44 l0 (i : Int)).f3 ++ [(⟨a2, []⟩ : S53)]).length by rw [← hnp]; omega)
       dsimp only at hcp
       rw [← hnp] at hcp
       rw [← hkk]
       have r1 : (0 ≤ (kk : Int)) = True := eq_true (by omega)
       have r2 : ((kk : Int) < (np : Int)) = True := eq_true (by omega)
       have r3 : (kk < np) = True := eq_true (by omega)
       have HKE := Aside0.mk hkk
       clear hnp hnp2 hkk
       have HCL7 := Aside0.mk (fun (W : World) (hb : Below w7.heap.size w7 W) => HCL.out W (below_step HB7.out hb))
       clear hset7 gp3 hgl7 hfp hot7 hgr7
       refine start_ (n := 11) (S := fun w' => w'.cell? ⟨g, i * 5 + 3, none⟩ = some (.slice (some ⟨gp, 0, none⟩) np bp) ∧ Below w7.heap.size w7 w') (ds := [10]) #[false, false, false, false, false, false, false, false, false, false, false] (by kernel_rfl) rfl rfl ⟨hcp, below_drew1 (Below.refl w7.heap.size w7)⟩ (fun hHeld => ?_)
       refine pure_ (i := 0) (N := some 70) (v := ?_) (a' := ?_) #[true, false, false, false, false, false, false, false, false, false, false] rfl rfl (by kernel_rfl) (fun _ _ _ h => h) (Or.inl ⟨by rfl, ?_⟩) ?_ ?_
       rotate_left
       ·intro w'
        go_simp
        with_reducible rfl
       rotate_left
       ·simp only [Act.put, List.setIfInBounds_toArray, List.set_cons_zero, List.set_cons_succ]
        rfl
       refine pure_ (i := 1) (N := some 71) (v := ?_) (a' := ?_) #[true, true, false, false, false, false, false, false, false, false, false] rfl rfl (by kernel_rfl) (fun _ _ _ h => h) (Or.inl ⟨by rfl, ?_⟩) ?_ ?_
       rotate_left
       ·intro w'
        go_simp
        with_reducible rfl
       rotate_left
       ·simp only [Act.put, List.setIfInBounds_toArray, List.set_cons_zero, List.set_cons_succ]
        rfl
       refine pure_ (i := 2) (N := some 72) (v := ?_) (a' := ?_) #[true, true, true, false, false, false, false, false, false, false, false] rfl rfl (by kernel_rfl) (fun _ _ _ h => h) (Or.inl ⟨by rfl, ?_⟩) ?_ ?_
       rotate_left
       ·intro w'
        go_simp
        with_reducible rfl
       rotate_left
       ·simp only [Act.put, List.setIfInBounds_toArray, List.set_cons_zero, List.set_cons_succ]
        rfl
       refine pure_ (i := 3) (N := some 73) (v := ?_) (a' := ?_) #[true, true, true, true, false, false, false, false, false, false, false] rfl rfl (by kernel_rfl) (fun _ _ _ h => h) (Or.inl ⟨by rfl, ?_⟩) ?_ ?_
       rotate_left
       ·intro w'
        go_simp
        with_reducible rfl
       rotate_left
       ·simp only [Act.put, List.setIfInBounds_toArray, List.set_cons_zero, List.set_cons_succ]
        rfl
       refine pure_ (i := 5) (N := some 75) (v := ?_) (a' := ?_) #[true, true, true, true, false, true, false, false, false, false, false] rfl rfl (by kernel_rfl) (fun _ _ _ h => h) (Or.inl ⟨by rfl, ?_⟩) ?_ ?_
       rotate_left
       ·intro w'
        go_simp
        with_reducible rfl
       rotate_left
       ·simp only [Act.put, List.setIfInBounds_toArray, List.set_cons_zero, List.set_cons_succ]
        rfl
       refine pure_ (i := 6) (N := some 76) (v := ?_) (a' := ?_) #[true, true, true, true, false, true, true, false, false, false, false] rfl rfl (by kernel_rfl) (fun _ _ _ h => h) (Or.inl ⟨by rfl, ?_⟩) ?_ ?_
       rotate_left
       ·intro w'
        go_simp
        with_reducible rfl
       rotate_left
       ·simp only [Act.put, List.setIfInBounds_toArray, List.set_cons_zero, List.set_cons_succ]
        rfl
       refine take_ (i := 4) (N := some 74) (v := (.slice (some ⟨gp, 0, none⟩) np bp)) (a' := ?_) #[true, true, true, true, true, true, true, false, false, false, false] rfl rfl (by kernel_rfl) (fun _ _ _ h => h) (Or.inl ⟨by rfl, ?_⟩) hHeld ?_ ?_
       rotate_left
       rotate_left
       ·simp only [Act.put, List.setIfInBounds_toArray, List.set_cons_zero, List.set_cons_succ]
        rfl
       rotate_left
       ·rintro w' ⟨s0, s1⟩
        go_simp
       refine one_ (i := 7) (N := some 77) #[true, true, true, true, true, true, true, true, false, false, false] rfl rfl (by kernel_rfl) (by decide) (fun K hK => ?_)
       refine goes_ Tryd.func50 (by kernel_rfl) rfl #[.slice A3 l3.length c3] (by rfl) rfl rfl (by first | rfl | (simp only [List.map_toArray, List.map_cons, List.map_nil]; rfl)) ?_
       refine (HCL7.out _ hHeld.2).mono ?_
       rintro e w8 ⟨v8, rfl, ho8, hb8⟩
       obtain ⟨A8, c8, rfl⟩ := Kd.R_slice ho8
       have HO8 := Aside0.mk (Kd.R_lower ho8 hHeld.2.size)
       refine ⟨_, rfl, hK.out _ _ ⟨(hb8.cell (World.block_lt_of_cell? _ _ hHeld.1)).trans hHeld.1, below_step hHeld.2 hb8⟩ (fun hHeld => ?_)⟩
       clear ho8 hb8
       clear hK K
       simp only [Act.put, List.setIfInBounds_toArray, List.set_cons_zero, List.set_cons_succ]
       refine pure_ (i := 8) (N := some 78) (v := ?_) (a' := ?_) #[true, true, true, true, true, true, true, true, true, false, false] rfl rfl (by kernel_rfl) (fun _ _ _ h => h) (Or.inl ⟨by rfl, ?_⟩) ?_ ?_
       rotate_left
       ·intro w'
        go_simp
        with_reducible rfl
       rotate_left
       ·simp only [Act.put, List.setIfInBounds_toArray, List.set_cons_zero, List.set_cons_succ]
        rfl
       refine pure_ (i := 9) (N := some 79) (v := ?_) (a' := ?_) #[true, true, true, true, true, true, true, true, true, true, false] rfl rfl (by kernel_rfl) (fun _ _ _ h => h) (Or.inl ⟨by rfl, ?_⟩) ?_ ?_
       rotate_left
       ·intro w'
        go_simp
        with_reducible rfl
       rotate_left
       ·simp only [Act.put, List.setIfInBounds_toArray, List.set_cons_zero, List.set_cons_succ]
        rfl
       refine last_ (i := 10) (N := none) #[true, true, true, true, true, true, true, true, true, true, true] rfl rfl (by kernel_rfl) (by decide) (fun K hK => ?_)
       obtain ⟨⟨Ad, cd, hdc⟩, hdf, hdR, hdm, hdg, hdb⟩ := props_put GP.out HGL.out hHeld.2 kk HKK.out HO8.out HBS.out
       refine skip_ (w1 := ?_) (by rfl) rfl ?_ ?_
       rotate_left
       ·go_simp
        rfl
       refine hK.out _ _ ?_
       generalize w8.setCell ⟨gp, kk * 2 + 1, none⟩ (.slice A8 l3.length c8) = w9 at hdR hdm hdg ⊢
       clear hK K
       refine done_ (n := 0) (by kernel_rfl) ?_
       have hot := hset2.out w9 w9 _ _ hdR hdm (fun k hk => .inl hk) (.inr ⟨rfl, rfl⟩)
       have hB8 := below_step HB7.out hHeld.2
       have hB9 := hB8.grown hdg hB8.size (fun k hk => by injection hk with hk; omega)
       go_wp2
       go_ret2
       refine ⟨_, rfl, ?_, hB9⟩
       have h9 := OT_R hot.1
       rw [← HR1.out]
       unfold withF putF
       rw [if_pos (show plcF l0 (i : Int) a2 < 0 by have := HP.out; omega), Int.toNat_natCast]
       rw [HKE.out, rd53_app, List.set_set, set_app] at h9
       exact h9
      ·rw [if_neg hs] at H
       cases H
    ·rw [if_neg hp, if_neg hp] at hpl
     have HPL := Aside0.mk hpl
     rw [if_neg (fun h => hp h.1)] at H
     by_cases hs : shortT l0 = true ∧ (rd_T44 l0 (i : Int)).f3.length ≤ 16
     ·rw [if_pos hs] at H
      simp only [Option.some.injEq, Prod.mk.injEq] at H
      obtain ⟨hR1, rfl⟩ := H
      have HR1 := Aside0.mk hR1
      have HP := Aside0.mk hp
      have HCP := Aside0.mk (show tree_Copy.f l0 = some l0 by unfold tree_Copy.f; rw [if_pos hs.1])
      obtain ⟨kk, hkk⟩ : ∃ kk : Nat, plcF l0 (i : Int) a2 = (kk : Int) := ⟨(plcF l0 (i : Int) a2).toNat, by omega⟩
      rw [hkk] at HPL HPR
      have HKP := Aside0.mk hkk
      clear hpl hp hs hR1 hkk
      go_enter Tryd.func35, Tryd.ntmps35
      go_wp2_with (first
       | (go_at_call 64; (with_reducible refine HPL.out.mono ?_); rintro e w1 ⟨rfl, hb⟩; have HB := Aside0.mk hb; clear hb)
       | (go_at_call 41; (with_reducible refine (HNM.out _).mono ?_); rintro e w2 ⟨rfl, hb⟩; replace HB := Aside0.mk (below_step HB.out hb); clear hb)
       | (go_at_call 15; (with_reducible refine (tree_Copy.calls _ c0 l0 l0 _ (Kd.C_below HC0.out HB.out) HK0.out HCP.out).mono ?_); rintro e w5 ⟨v5, rfl, ho, hb⟩; replace ho := OT_lower (OT_of_S ho) HB.out.size; have HB5 := Aside0.mk (below_step HB.out hb); obtain ⟨g, cap, rfl, -, -, -⟩ := Kd.R_form (OT_R ho) (by have := HIL.out; omega); obtain ⟨v1, v3, v4, -, hbg, hgl, hc3, hf3, g1, g3, g4, hset⟩ := OT_lend ho i HIL.out; obtain ⟨B3, b3, rfl⟩ := Kd.R_slice g3; have HSET := Aside0.mk hset; have G3 := Aside0.mk g3; have HGL5 := Aside0.mk hgl; have HBG := Aside0.mk hbg; clear hb ho g1 g3 g4 hset hgl hbg))
      have g3 := G3.out
      obtain ⟨gp, bp, e3, -, -, -⟩ := Kd.R_form g3 (by have := HPR.out; omega)
      cases e3
      have hset2 := HSET
      have GP := G3
      have HGL := HGL5
      have HBS := Aside0.mk HB5.out.size
      have HB7 := HB5
      have hcp := hc3
      obtain ⟨np, hnp⟩ : ∃ np, np = (rd_T44 l0 (i : Int)).f3.length := ⟨_, rfl⟩
      have HNP := Aside0.mk hnp
      have HKK := Aside0.mk (show kk < (rd_T44 l0 (i : Int)).f3.length by have := HPR.out; omega)
      rw [← hnp] at hcp
      clear hnp
      have r1 : (0 ≤ (kk : Int)) = True := eq_true (by omega)
      have r2 : ((kk : Int) < (np : Int)) = True := eq_true (by have := HKK.out; have := HNP.out; omega)
      have r3 : (kk < np) = True := eq_true (by have := HKK.out; have := HNP.out; omega)
      have HCL7 := Aside0.mk (fun (W : World) (hb : Below w5.heap.size w5 W) => HCL.out W (below_step HB7.out hb))
      clear g3 hc3 hf3
      refine start_ (n := 11) (S := fun w' => w'.cell? ⟨g, i * 5 + 3, none⟩ = some (.slice (some ⟨gp, 0, none⟩) np b3) ∧ Below w5.heap.size w5 w') (ds := [10]) #[false, false, false, false, false, false, false, false, false, false, false] (by kernel_rfl) rfl rfl ⟨hcp, below_drew1 (Below.refl w5.heap.size w5)⟩ (fun hHeld => ?_)
      refine pure_ (i := 0) (N := some 70) (v := ?_) (a' := ?_) #[true, false, false, false, false, false, false, false, false, false, false] rfl rfl (by kernel_rfl) (fun _ _ _ h => h) (Or.inl ⟨by rfl, ?_⟩) ?_ ?_
      rotate_left
      ·intro w'
       go_simp
       with_reducible rfl
      rotate_left
      ·simp only [Act.put, List.setIfInBounds_toArray, List.set_cons_zero, List.set_cons_succ]
       rfl
      refine pure_ (i := 1) (N := some 71) (v := ?_) (a' := ?_) #[true, true, false, false, false, false, false, false, false, false, false] rfl rfl (by kernel_rfl) (fun _ _ _ h => h) (Or.inl ⟨by rfl, ?_⟩) ?_ ?_
      rotate_left
      ·intro w'
       go_simp
       with_reducible rfl
      rotate_left
      ·simp only [Act.put, List.setIfInBounds_toArray, List.set_cons_zero, List.set_cons_succ]
       rfl
      refine pure_ (i := 2) (N := some 72) (v := ?_) (a' := ?_) #[true, true, true, false, false, false, false, false, false, false, false] rfl rfl (by kernel_rfl) (fun _ _ _ h => h) (Or.inl ⟨by rfl, ?_⟩) ?_ ?_
      rotate_left
      ·intro w'
       go_simp
       with_reducible rfl
      rotate_left
      ·simp only [Act.put, List.setIfInBounds_toArray, List.set_cons_zero, List.set_cons_succ]
       rfl
      refine pure_ (i := 3) (N := some 73) (v := ?_) (a' := ?_) #[true, true, true, true, false, false, false, false, false, false, false] rfl rfl (by kernel_rfl) (fun _ _ _ h => h) (Or.inl ⟨by rfl, ?_⟩) ?_ ?_
      rotate_left
      ·intro w'
       go_simp
       with_reducible rfl
      rotate_left
      ·simp only [Act.put, List.setIfInBounds_toArray, List.set_cons_zero, List.set_cons_succ]
       rfl
      refine pure_ (i := 5) (N := some 75) (v := ?_) (a' := ?_) #[true, true, true, true, false, true, false, false, false, false, false] rfl rfl (by kernel_rfl) (fun _ _ _ h => h) (Or.inl ⟨by rfl, ?_⟩) ?_ ?_
      rotate_left
      ·intro w'
       go_simp
       with_reducible rfl
      rotate_left
      ·simp only [Act.put, List.setIfInBounds_toArray, List.set_cons_zero, List.set_cons_succ]
       rfl
      refine pure_ (i := 6) (N := some 76) (v := ?_) (a' := ?_) #[true, true, true, true, false, true, true, false, false, false, false] rfl rfl (by kernel_rfl) (fun _ _ _ h => h) (Or.inl ⟨by rfl, ?_⟩) ?_ ?_
      rotate_left
      ·intro w'
       go_simp
       with_reducible rfl
      rotate_left
      ·simp only [Act.put, List.setIfInBounds_toArray, List.set_cons_zero, List.set_cons_succ]
       rfl
      refine take_ (i := 4) (N := some 74) (v := (.slice (some ⟨gp, 0, none⟩) np b3)) (a' := ?_) #[true, true, true, true, true, true, true, false, false, false, false] rfl rfl (by kernel_rfl) (fun _ _ _ h => h) (Or.inl ⟨by rfl, ?_⟩) hHeld ?_ ?_
      rotate_left
      rotate_left
      ·simp only [Act.put, List.setIfInBounds_toArray, List.set_cons_zero, List.set_cons_succ]
       rfl
      rotate_left
      ·rintro w' ⟨s0, s1⟩
       go_simp
      refine one_ (i := 7) (N := some 77) #[true, true, true, true, true, true, true, true, false, false, false] rfl rfl (by kernel_rfl) (by decide) (fun K hK => ?_)
      refine goes_ Tryd.func50 (by kernel_rfl) rfl #[.slice A3 l3.length c3] (by rfl) rfl rfl (by first | rfl | (simp only [List.map_toArray, List.map_cons, List.map_nil]; rfl)) ?_
      refine (HCL7.out _ hHeld.2).mono ?_
      rintro e w8 ⟨v8, rfl, ho8, hb8⟩
      obtain ⟨A8, c8, rfl⟩ := Kd.R_slice ho8
      have HO8 := Aside0.mk (Kd.R_lower ho8 hHeld.2.size)
      refine ⟨_, rfl, hK.out _ _ ⟨(hb8.cell (World.block_lt_of_cell? _ _ hHeld.1)).trans hHeld.1, below_step hHeld.2 hb8⟩ (fun hHeld => ?_)⟩
      clear ho8 hb8
      clear hK K
      simp only [Act.put, List.setIfInBounds_toArray, List.set_cons_zero, List.set_cons_succ]
      refine pure_ (i := 8) (N := some 78) (v := ?_) (a' := ?_) #[true, true, true, true, true, true, true, true, true, false, false] rfl rfl (by kernel_rfl) (fun _ _ _ h => h) (Or.inl ⟨by rfl, ?_⟩) ?_ ?_
      rotate_left
      ·intro w'
       go_simp
       with_reducible rfl
      rotate_left
      ·simp only [Act.put, List.setIfInBounds_toArray, List.set_cons_zero, List.set_cons_succ]
       rfl
      refine pure_ (i := 9) (N := some 79) (v := ?_) (a' := ?_) #[true, true, true, true, true, true, true, true, true, true, false] rfl rfl (by kernel_rfl) (fun _ _ _ h => h) (Or.inl ⟨by rfl, ?_⟩) ?_ ?_
      rotate_left
      ·intro w'
       go_simp
       with_reducible rfl
      rotate_left
      ·simp only [Act.put, List.setIfInBounds_toArray, List.set_cons_zero, List.set_cons_succ]
       rfl
      refine last_ (i := 10) (N := none) #[true, true, true, true, true, true, true, true, true, true, true] rfl rfl (by kernel_rfl) (by decide) (fun K hK => ?_)
      obtain ⟨⟨Ad, cd, hdc⟩, hdf, hdR, hdm, hdg, hdb⟩ := props_put GP.out HGL.out hHeld.2 kk HKK.out HO8.out HBS.out
      refine skip_ (w1 := ?_) (by rfl) rfl ?_ ?_
      rotate_left
      ·go_simp
       rfl
      refine hK.out _ _ ?_
      generalize w8.setCell ⟨gp, kk * 2 + 1, none⟩ (.slice A8 l3.length c8) = w9 at hdR hdm hdg ⊢
      clear hK K
      refine done_ (n := 0) (by kernel_rfl) ?_
      have hot := hset2.out w9 w9 _ _ hdR hdm (fun k hk => .inl hk) (.inr ⟨rfl, rfl⟩)
      have hB8 := below_step HB7.out hHeld.2
      have hB9 := hB8.grown hdg hB8.size (fun k hk => by injection hk with hk; omega)
      go_wp2
      go_ret2
      refine ⟨_, rfl, ?_, hB9⟩
      have h9 := OT_R hot.1
      rw [← HR1.out]
      unfold withF putF
      rw [if_neg (show ¬ plcF l0 (i : Int) a2 < 0 by have := HP.out; omega), Int.toNat_natCast, HKP.out, Int.toNat_natCast]
      exact h9
     ·rw [if_neg hs] at H
      cases H
 ·rw [if_neg he] at H
  simp only [Option.some.injEq, Prod.mk.injEq] at H
  obtain ⟨rfl, rfl⟩ := H
  have HPL := Aside0.mk (tree_place.calls A0 c0 l0 a1 a2 0 e0 w hr0 hc0 (by
   unfold tree_place.f
   rw [E1, Option.bind_some, if_neg he]))
  have hk : e0 = 1 ∨ e0 = 19 := by
   unfold tree_check.f tree_Formed.f at E1
   rw [Option.bind_some] at E1
   split at E1
   ·split at E1
    ·exact .inr (Option.some.inj E1).symm
    ·split at E1
     ·exact .inr (Option.some.inj E1).symm
     ·exact absurd (Option.some.inj E1).symm he
   ·exact .inl (Option.some.inj E1).symm
  clear hr0 hc0 hr3 hc3 E1
  rcases hk with rfl | rfl
  ·clear he
   go_enter Tryd.func35, Tryd.ntmps35
   go_wp2_with (first
    | (go_at_call 64; (with_reducible refine HPL.out.mono ?_); rintro e w1 ⟨rfl, hb⟩; have HB := Aside0.mk hb; clear hb)
    | (go_at_call 41; (with_reducible refine (HNM.out _).mono ?_); rintro e w2 ⟨rfl, hb⟩; replace HB := Aside0.mk (below_step HB.out hb); clear hb))
   go_ret2
   exact ⟨_, rfl, Kd.R_nil _ _ _ _ _, HB.out⟩
  ·clear he
   go_enter Tryd.func35, Tryd.ntmps35
   go_wp2_with (first
    | (go_at_call 64; (with_reducible refine HPL.out.mono ?_); rintro e w1 ⟨rfl, hb⟩; have HB := Aside0.mk hb; clear hb)
    | (go_at_call 41; (with_reducible refine (HNM.out _).mono ?_); rintro e w2 ⟨rfl, hb⟩; replace HB := Aside0.mk (below_step HB.out hb); clear hb))
   go_ret2
   exact ⟨_, rfl, Kd.R_nil _ _ _ _ _, HB.out⟩
end Go.Proofs.YtnalcjgefbelnaaDoor.Q
end
section
set_option linter.unusedSimpArgs false
set_option linter.unusedVariables false
namespace Go.Proofs.YtnalcjgefbelnaaDoor.Q
open Go.RowKit Go.Proofs.YtnalcjgefbelnaaDoorW.PrintWords Go.Proofs.YtnalcjgefbelnaaDoorW.PrintLast Go.Proofs.YtnalcjgefbelnaaDoorW.PrintMore
attribute [local go_sem] max2_int min2_int max_two min_two max_three min_three max_four min_four
theorem clear_event {P : Program} {ops : Array Oper} {o : Oper} {a : Act} {Q : Exit → Act → World → Prop} {rest : List Oper} {W w1 : World} (hgd : o.guard = none) (x : Operand) (t : TypeId)
  (ho : o.op = .call { callee := .builtin .clear, args := #[x], argTypes := #[t] }) (v : Value) (hs : a.eval x = v) (hrun : (Builtin.clear_ #[t] o.type #[v]).run P W = .ok (.tuple #[]) w1) (h : wpList P ops Q rest (a.put o.dst (.tuple #[])) w1) : wpList P ops Q (o :: rest) a W := by
 refine wpList_plain hgd fun K hK => ?_
 unfold Oper.wp execOp
 simp only [ho, resolve, invoke, builtin, Sem.run_bind, Sem.run_pure, Result.andThen_ok, List.map_toArray, List.map_cons, List.map_nil, hs, hrun]
 exact hK _ _ h
/-- clear of the one element behind a row's end. -/
theorem clear_past {W : World} {base g n cap : Nat} {ok : Nat → Prop} {M : List S53} (hR : Kd.R k53 53 W base ok (.slice (some ⟨g, 0, none⟩) n cap) M) (hc : n + 1 ≤ cap) (ty : TypeId) :
  ∃ w1, (Builtin.clear_ #[42] ty #[.slice (some ⟨g, n * 2, none⟩) 1 (cap - n)]).run Tryd.prog W = .ok (.tuple #[]) w1 ∧ Kd.R k53 53 w1 base ok (.slice (some ⟨g, 0, none⟩) n cap) M ∧ W.grownBy w1 (some g) := by
 obtain ⟨hn, hnc, _⟩ := Kd.R_reads' hR
 have hgo : ∀ m, (Value.slice (some ⟨g, 0, none⟩) m cap).ownBlock = some g := fun m => by simp [Value.ownBlock]
 obtain ⟨hok, inner, ho, hr⟩ := hR
 obtain ⟨hlen, ho⟩ := ho
 rcases ho with ⟨hv, _⟩ | ⟨g', cap', cur, hv, hb, hh, hic, hcm, hcs, htk⟩
 ·cases hv
 injection hv with ha _ hc'
 injection ha with ha
 injection ha with hg'
 subst hg'; subst hc'
 obtain ⟨zs, hzs⟩ : ∃ zs : List Value, zs = (Builtin.zeroCells (Value.agg #[.string ⟨#[]⟩, .slice none 0 0]).cells 1).toList := ⟨_, rfl⟩
 have hzl : zs.length = 2 := by
  rw [hzs, Array.length_toList, size_zeroCells]
  rfl
 have hz1 : ∀ q ∈ zs, q.oneCell' = true := by
  intro q hq
  rw [hzs] at hq
  unfold Builtin.zeroCells at hq
  rw [Array.toList_map] at hq
  obtain ⟨j, _, rfl⟩ := List.mem_map.1 hq
  have e : (Value.agg #[.string ⟨#[]⟩, .slice none 0 0]).cells = #[.string ⟨#[]⟩, .slice none 0 0] := rfl
  rw [e]
  have h2 : j % (#[Value.string ⟨#[]⟩, Value.slice none 0 0] : Array Value).size = 0 ∨ j % (#[Value.string ⟨#[]⟩, Value.slice none 0 0] : Array Value).size = 1 := by
   show j % 2 = 0 ∨ j % 2 = 1
   omega
  rcases h2 with h2 | h2 <;> rw [h2] <;> rfl
 have hcs : cur.size = cap * 2 := hcs
 rw [← hn] at hlen htk hic
 have hst := run_storeCells_cells (P := Tryd.prog) g (n * 2) zs 0 W (fun j hj => by rw [cell_of_row W g _ cur 53 (0, 0) hh]; simp; omega) (fun j _ => blk_frozen hh _) hz1
 obtain ⟨cur', h1, h2, h3⟩ := setCells_row zs (n * 2) W cur hh (by omega)
 obtain ⟨s2, s3, s4, s5⟩ := setCells_same g zs (n * 2) W
 have hfin : cur'.toList.take (n * 2) = inner := by
  rw [h3, ← htk, List.append_assoc, List.take_append_of_le_length (by rw [List.length_take, Array.length_toList, hcs]; omega)]
  show (cur.toList.take (n * 2)).take (n * 2) = cur.toList.take (n * 2)
  rw [List.take_take, Nat.min_self]
 have hrow : (W.setCells g (n * 2) zs).ownsRow base 53 k53.sz (.slice (some ⟨g, 0, none⟩) n cap) M.length inner := by
  rw [← hn]
  exact ⟨hlen, .inr ⟨g, cap, cur', rfl, hb, h1, hic, hcm, h2.trans hcs, hfin⟩⟩
 refine ⟨W.setCells g (n * 2) zs, ?_, ⟨hok, inner, hrow, hr.imp_ (fun x cs h => k53.M_move (fun k hk => setCells_far zs (n * 2) k (fun e => hk.2 (by rw [hgo, e]))) h)⟩, ⟨s2, s3, s4, by omega, fun k _ hk => setCells_far zs (n * 2) k (fun e => hk (by rw [e]))⟩⟩
 have hz0 : ∀ W : World, (zeroValue 53).run Tryd.prog W = .ok (.agg #[.string ⟨#[]⟩, .slice none 0 0]) W := fun W => Tryd.zeroValue53 W
 rw [Nat.add_zero] at hst
 unfold Builtin.clear_
 simp [Sem.run_bind, underlying, Tryd.underlying42, hz0, ← hzs, hst]
set_option maxHeartbeats 4000000 in
set_option maxRecDepth 100000 in
theorem delete53_calls (gp n c k m : Nat) (i j : Int) (q : List S53) (base : Nat) (ok : Nat → Prop) (w0 w : World) (hR : Kd.R k53 53 w base ok (.slice (some ⟨gp, 0, none⟩) n c) q) (hB : Below base w0 w) (hb : base ≤ w.heap.size) (hk : k < n) (hnm : n = m + 1) (hi : i = k) (hj : j = k + 1) :
  Calls Tryd.prog 65 #[.slice (some ⟨gp, 0, none⟩) n c, .int .i64 i, .int .i64 j] w fun e w' => e = .returned (.slice (some ⟨gp, 0, none⟩) m c) ∧ Kd.R k53 53 w' base ok (.slice (some ⟨gp, 0, none⟩) m c) (q.eraseIdx k) ∧ Kp gp w w' ∧ Below base w0 w' := by
 have mixed : Tryd.prog.follows Departure.mixedOrders = true := by kernel_rfl
 obtain ⟨hqn, hnc, -⟩ := Kd.R_reads' hR
 have hbg : base ≤ gp := Kd.R_base hR gp (by simp [Value.ownBlock])
 have hmx : c ≤ 9223372036854775807 := by
  obtain ⟨hok, inner, ⟨hlen, ho⟩, hr⟩ := hR
  rcases ho with ⟨hv, _⟩ | ⟨g', cap', cur, hv, hb, hh, hic, hcm, hcs, htk⟩
  ·cases hv
  injection hv with _ _ hc'
  subst hc'
  exact hcm
 have hij : (i == j) = false := beq_eq_false_iff_ne.2 (by omega)
 obtain ⟨v3, k3⟩ : ∃ v3, ∀ W : World, (Instr.slice 42 (.slice (some ⟨gp, 0, none⟩) n c) (some (.int .i64 i)) (some (.int .i64 j)) (some (.int .i64 (n : Int)))).run Tryd.prog W = .ok v3 W := by
  have hel : Tryd.prog.elem 42 = 53 := by kernel_rfl
  refine ⟨sliced (some ⟨gp, 0, none⟩) i.toNat j.toNat (n : Int).toNat 2, fun W => ?_⟩
  rw [run_slice_lhm W 42 _ n c (by rw [hel]; exact Tryd.underlying42) .i64 .i64 .i64 i j (n : Int) (by omega) (by omega) (by omega) (by omega), hel, run_size info53s]
  rfl
 have kl : ∀ W : World, (Instr.slice 42 (.slice (some ⟨gp, 0, none⟩) n c) none (some (.int .i64 i)) none).run Tryd.prog W = .ok (.slice (some ⟨gp, 0, none⟩) k c) W := fun W => by
  rw [run_cut_hi Tryd.underlying42 info53s (some ⟨gp, 0, none⟩) n c i (by omega) (by omega) W, show i.toNat = k by omega]
 obtain ⟨A2, hA2⟩ : ∃ A2, A2 = cutAt (some ⟨gp, 0, none⟩) c (k + 1) 2 := ⟨_, rfl⟩
 have kr : ∀ W : World, (Instr.slice 42 (.slice (some ⟨gp, 0, none⟩) n c) (some (.int .i64 j)) none none).run Tryd.prog W = .ok (.slice A2 (n - (k + 1)) (c - (k + 1))) W := fun W => by
  rw [run_cut_lo Tryd.underlying42 info53s (some ⟨gp, 0, none⟩) n c j (by omega) (by omega) W, show j.toNat = k + 1 by omega, hA2]
 have kc : ∀ W : World, (Instr.slice 42 (.slice (some ⟨gp, 0, none⟩) m c) (some (.int .i64 (m : Int))) (some (.int .i64 (n : Int))) none).run Tryd.prog W = .ok (.slice (some ⟨gp, m * 2, none⟩) 1 (c - m)) W := fun W => by
  rw [run_cut_lohi Tryd.underlying42 info53s (some ⟨gp, 0, none⟩) m c (m : Int) (n : Int) (by omega) (by omega) (by omega) W, Int.toNat_natCast, Int.toNat_natCast, cutAt_own (by omega), show n - m = 1 by omega]
 have HRD := Aside0.mk (Kd.R_drew hR)
 have HBD := Aside0.mk (below_drew hB)
 have HBS := Aside0.mk (show base ≤ w.drew.heap.size from Nat.le_trans hb (below_drew1 (Below.refl w.heap.size w)).size)
 have HKN := Aside0.mk hk
 have HNM := Aside0.mk hnm
 have HMC := Aside0.mk (show m + 1 ≤ c by omega)
 have HA2 := Aside0.mk (show A2 = if c = k + 1 then some ⟨gp, 0, none⟩ else (some (⟨gp, 0, none⟩ : Addr)).map (·.add ((k + 1) * k53.sz)) from hA2)
 have HBG := Aside0.mk hbg
 clear hR hB hb hk hnm hi hj hqn hnc hmx hA2 hbg
 go_enter Tryd.func65, Tryd.ntmps65
 go_wp2
 refine start_ (n := 8) (S := fun w' => w' = w.drew) (ds := [6]) #[false, false, false, false, false, false, false, false] (by kernel_rfl) rfl rfl rfl (fun hHeld => ?_)
 refine pure_ (i := 0) (N := some 20) (v := ?_) (a' := ?_) #[true, false, false, false, false, false, false, false] rfl rfl (by kernel_rfl) (fun _ _ _ h => h) (Or.inl ⟨by rfl, ?_⟩) ?_ ?_
 rotate_left
 ·intro w'
  go_simp
  with_reducible rfl
 rotate_left
 ·simp only [Act.put, List.setIfInBounds_toArray, List.set_cons_zero, List.set_cons_succ]
  rfl
 refine pure_ (i := 1) (N := some 21) (v := ?_) (a' := ?_) #[true, true, false, false, false, false, false, false] rfl rfl (by kernel_rfl) (fun _ _ _ h => h) (Or.inl ⟨by rfl, ?_⟩) ?_ ?_
 rotate_left
 ·intro w'
  go_simp
  with_reducible rfl
 rotate_left
 ·simp only [Act.put, List.setIfInBounds_toArray, List.set_cons_zero, List.set_cons_succ]
  rfl
 refine pure_ (i := 2) (N := some 22) (v := ?_) (a' := ?_) #[true, true, true, false, false, false, false, false] rfl rfl (by kernel_rfl) (fun _ _ _ h => h) (Or.inl ⟨by rfl, ?_⟩) ?_ ?_
 rotate_left
 ·intro w'
  go_simp
  with_reducible rfl
 rotate_left
 ·simp only [Act.put, List.setIfInBounds_toArray, List.set_cons_zero, List.set_cons_succ]
  rfl
 refine pure_ (i := 3) (N := some 23) (v := ?_) (a' := ?_) #[true, true, true, true, false, false, false, false] rfl rfl (by kernel_rfl) (fun _ _ _ h => h) (Or.inl ⟨by rfl, ?_⟩) ?_ ?_
 rotate_left
 ·intro w'
  go_simp
  with_reducible rfl
 rotate_left
 ·simp only [Act.put, List.setIfInBounds_toArray, List.set_cons_zero, List.set_cons_succ]
  rfl
 refine pure_ (i := 4) (N := some 24) (v := ?_) (a' := ?_) #[true, true, true, true, true, false, false, false] rfl rfl (by kernel_rfl) (fun _ _ _ h => h) (Or.inl ⟨by rfl, ?_⟩) ?_ ?_
 rotate_left
 ·intro w'
  go_simp
  with_reducible rfl
 rotate_left
 ·simp only [Act.put, List.setIfInBounds_toArray, List.set_cons_zero, List.set_cons_succ]
  rfl
 refine pure_ (i := 5) (N := some 25) (v := ?_) (a' := ?_) #[true, true, true, true, true, true, false, false] rfl rfl (by kernel_rfl) (fun _ _ _ h => h) (Or.inl ⟨by rfl, ?_⟩) ?_ ?_
 rotate_left
 ·intro w'
  go_simp
  with_reducible rfl
 rotate_left
 ·simp only [Act.put, List.setIfInBounds_toArray, List.set_cons_zero, List.set_cons_succ]
  rfl
 refine last_ (i := 6) (N := some 26) #[true, true, true, true, true, true, true, false] rfl rfl (by kernel_rfl) (by decide) (fun K hK => ?_)
 refine Kd.R_delete_step k53 (w0 := w0) base (by rfl) (.tmp 22) (.tmp 25) 42 53 rfl Tryd.underlying42 info53s (g := gp) (n := n) (c := c) (k := k) (m := n - (k + 1)) (c2 := c - (k + 1)) (A := A2) rfl rfl HA2.out rfl HRD.out HKN.out HBD.out HBS.out ?_
 intro w1 hR1 hB1 hg1
 refine hK.out _ _ ?_
 have HR1 := Aside0.mk hR1
 have HB1 := Aside0.mk hB1
 have HP1 := Aside0.mk (Kp_grown (p := gp) (Kp_start (g := gp) (below_drew1 (Below.refl w.heap.size w))) hg1 (.inl rfl))
 clear hR1 hB1 hg1
 clear hK K
 simp only [Act.put, List.setIfInBounds_toArray, List.set_cons_zero, List.set_cons_succ]
 refine pure_ (i := 7) (N := some 0) (v := ?_) (a' := ?_) #[true, true, true, true, true, true, true, true] rfl rfl (by kernel_rfl) (fun _ _ _ h => h) (Or.inl ⟨by rfl, ?_⟩) ?_ ?_
 rotate_left
 ·intro w'
  go_simp
  with_reducible rfl
 rotate_left
 ·simp only [Act.put, List.setIfInBounds_toArray, List.set_cons_zero, List.set_cons_succ]
  rfl
 refine done_ (n := 0) (by kernel_rfl) ?_
 have hn1 : n - 1 = m := by have := HNM.out; omega
 rw [hn1] at HR1 ⊢
 obtain ⟨w9, hrun, hR9, hg9⟩ := clear_past HR1.out HMC.out 0
 have HR9 := Aside0.mk hR9
 have HG9 := Aside0.mk hg9
 have HRUN := Aside0.mk hrun
 clear hn1 hrun hR9 hg9
 go_wp2_with (refine clear_event rfl (.tmp 31) 42 rfl (.slice (some ⟨gp, m * 2, none⟩) 1 (c - m)) rfl HRUN.out ?_)
 go_ret
 exact ⟨rfl, HR9.out, Kp_grown HP1.out HG9.out (.inl rfl), HB1.out.grown HG9.out (Nat.le_trans HBS.out HP1.out.1) (fun k hk => by injection hk with hk; have := HBG.out; omega)⟩
def tree_Drop.f (l0 : List S44) (a1 : Int) (a2 : ByteArray) : Option (List S44 × Int) := (tree_check.f l0 a1).bind fun e => if e = 0 then (if plcF l0 a1 a2 < 0 then some ([], 2) else if shortT l0 = true ∧ (rd_T44 l0 a1).f3.length ≤ 16 then some (withF l0 a1 ((rd_T44 l0 a1).f3.eraseIdx (plcF l0 a1 a2).toNat), 0) else none) else some ([], e)
set_option maxHeartbeats 16000000 in
set_option maxRecDepth 100000 in
theorem tree_Drop.calls (A0 : Option Addr) (c0 : Nat) (l0 : List S44) (a1 : Int) (a2 : ByteArray) (r1 : List S44) (r2 : Int) (w : World) (hr0 : Kd.C k44 w A0 l0.length l0) (hc0 : l0.length ≤ c0) (h : tree_Drop.f l0 a1 a2 = some (r1, r2)) :
  Calls Tryd.prog 37 #[.slice A0 l0.length c0, .int .i64 a1, .string a2] w fun e w' => ∃ v0_ : Value, e = .returned (.tuple #[v0_, .int .i64 r2]) ∧ Kd.R k44 44 w' w.heap.size (fun _ => True) v0_ r1 ∧ Below w.heap.size w w' := by
 have mixed : Tryd.prog.follows Departure.mixedOrders = true := by kernel_rfl
 have hu44 := Tryd.underlying44
 have hu53 := Tryd.underlying53
 unfold tree_Drop.f at h
 obtain ⟨e0, E1, H⟩ := Option.bind_eq_some_iff.mp h
 clear h
 have HC0 := Aside0.mk hr0
 have HK0 := Aside0.mk hc0
 by_cases he : e0 = 0
 ·subst he
  rw [if_pos rfl] at H
  obtain ⟨h0, h1⟩ := check_in E1
  obtain ⟨i, rfl⟩ : ∃ i : Nat, a1 = (i : Int) := ⟨a1.toNat, by omega⟩
  have HIL := Aside0.mk (show i < l0.length by omega)
  have hpr := idxP_range (isP a2) (rd_T44 l0 (i : Int)).f3
  have HPR := Aside0.mk (show -1 ≤ plcF l0 (i : Int) a2 ∧ plcF l0 (i : Int) a2 < (rd_T44 l0 (i : Int)).f3.length from hpr)
  have p1 : (0 ≤ (i : Int)) = True := eq_true h0
  have p2 : ((i : Int) < (l0.length : Int)) = True := eq_true h1
  have p3 : (i < l0.length) = True := eq_true HIL.out
  have hpl := tree_place.calls A0 c0 l0 (i : Int) a2 (if plcF l0 (i : Int) a2 < 0 then 0 else plcF l0 (i : Int) a2) (if plcF l0 (i : Int) a2 < 0 then 2 else 0) w hr0 hc0 (by
   unfold tree_place.f
   rw [E1, Option.bind_some, if_pos rfl]
   split <;> rfl)
  clear hr0 hc0 E1 hpr h0 h1
  by_cases hp : plcF l0 (i : Int) a2 < 0
  ·rw [if_pos hp, if_pos hp] at hpl
   rw [if_pos hp] at H
   simp only [Option.some.injEq, Prod.mk.injEq] at H
   obtain ⟨rfl, rfl⟩ := H
   have HPL := Aside0.mk hpl
   clear hpl hp
   go_enter Tryd.func37, Tryd.ntmps37
   go_wp2_with (go_at_call 64; (with_reducible refine HPL.out.mono ?_); rintro e w1 ⟨rfl, hb⟩; have HB := Aside0.mk hb; clear hb)
   go_ret2
   exact ⟨_, rfl, Kd.R_nil _ _ _ _ _, HB.out⟩
  ·rw [if_neg hp, if_neg hp] at hpl
   rw [if_neg hp] at H
   have HPL := Aside0.mk hpl
   by_cases hs : shortT l0 = true ∧ (rd_T44 l0 (i : Int)).f3.length ≤ 16
   ·rw [if_pos hs] at H
    simp only [Option.some.injEq, Prod.mk.injEq] at H
    obtain ⟨hR1, rfl⟩ := H
    have HR1 := Aside0.mk hR1
    have HCP := Aside0.mk (show tree_Copy.f l0 = some l0 by unfold tree_Copy.f; rw [if_pos hs.1])
    obtain ⟨kk, hkk⟩ : ∃ kk : Int, kk = plcF l0 (i : Int) a2 := ⟨_, rfl⟩
    rw [← hkk] at HPL HPR
    have hwr : IntKind.i64.wrap (kk + 1) = kk + 1 := (i64_w _).trans (by unfold wrap64; have := HPR.out; have := hs.2; omega)
    have hwr2 : wrap64 (kk + 1) = kk + 1 := by unfold wrap64; have := HPR.out; have := hs.2; omega
    obtain ⟨nn, hnn⟩ : ∃ nn, nn = (rd_T44 l0 (i : Int)).f3.length := ⟨_, rfl⟩
    have HNN := Aside0.mk hnn
    have HKP := Aside0.mk hkk
    have HKK := Aside0.mk (show 0 ≤ kk ∧ kk < nn by have := HPR.out; omega)
    clear hpl hp hs hR1 hkk hnn
    go_enter Tryd.func37, Tryd.ntmps37
    go_wp2_with (first
     | (go_at_call 64; (with_reducible refine HPL.out.mono ?_); rintro e w1 ⟨rfl, hb⟩; have HB := Aside0.mk hb; clear hb)
     | (go_at_call 15; (with_reducible refine (tree_Copy.calls _ c0 l0 l0 _ (Kd.C_below HC0.out HB.out) HK0.out HCP.out).mono ?_); rintro e w5 ⟨v5, rfl, ho, hb⟩; replace ho := OT_lower (OT_of_S ho) HB.out.size; have HB5 := Aside0.mk (below_step HB.out hb); obtain ⟨g, cap, rfl, -, -, -⟩ := Kd.R_form (OT_R ho) (by have := HIL.out; omega); obtain ⟨v1, v3, v4, -, hbg, hgl, hc3, hf3, g1, g3, g4, hset⟩ := OT_lend ho i HIL.out; obtain ⟨gp, bp, rfl, -, -, -⟩ := Kd.R_form g3 (by have := HKK.out; have := HNN.out; omega); have HSET := Aside0.mk hset; rw [← HNN.out] at hc3 g3; have G3 := Aside0.mk g3; have HGL5 := Aside0.mk hgl; have HBG := Aside0.mk hbg; clear hb ho g1 g3 g4 hset hgl hbg)
     | (go_at_call 65; (with_reducible refine (delete53_calls gp nn bp kk.toNat (nn - 1) kk (kk + 1) _ w.heap.size (fun k => k ≠ g) w w5 G3.out HB5.out HB5.out.size (by have := HKK.out; omega) (by have := HKK.out; omega) (by have := HKK.out; omega) (by have := HKK.out; omega)).mono ?_); rintro e w6 ⟨rfl, hR6, hK6, hB6⟩; have hgn : w6.heap[g]? = w5.heap[g]? := hK6.2 g (fun e => (G3.out.1 gp (by simp [Value.ownBlock])) e.symm) HGL5.out; have hc6 := (cell_same (o := i * 5 + 3) hgn).trans hc3; have hf6 : w6.frozen? ⟨g, i * 5 + 3, none⟩ = false := (frozen_same (o := i * 5 + 3) hgn).trans hf3; have HR6 := Aside0.mk hR6; have HK6 := Aside0.mk hK6; have HB6 := Aside0.mk hB6; clear hR6 hK6 hB6 hgn hc3 hf3)
     | ((with_reducible refine gate_store (t := 42) (p := 34) rfl ?_); refine store_event (t := 42) (p := 34) (v := ?vo) (w1 := w6.setCell ⟨g, i * 5 + 3, none⟩ (.slice (some ⟨gp, 0, none⟩) (nn - 1) bp)) ?hg ?ho ?hn ?hr ?_; (case ho => rfl); (case hg => rfl); (case hn => rfl); (case hr => first | (go_simp; done) | (go_simp; rfl)); intro w7 hw7; have HW7 := Aside0.mk hw7; clear hw7 hc6 hf6))
    have hgo : ∀ (x y : Nat), (Value.slice (some ⟨gp, 0, none⟩) x y).ownBlock = some gp := fun x y => by simp [Value.ownBlock]
    obtain ⟨hot, hgr⟩ := HSET.out w6 w7 _ _ HR6.out (fun k hk hk2 => HK6.out.2 k (fun e => hk2 (by rw [hgo, e])) hk) (fun k hk => .inl (by rw [hgo] at hk ⊢; exact hk)) (.inl HW7.out)
    have hB7 := HB6.out.grown hgr HB6.out.size (fun k hk => by injection hk with hk; have := HBG.out; omega)
    go_ret2
    refine ⟨_, rfl, ?_, hB7⟩
    have h9 := OT_R hot
    rw [← HR1.out]
    unfold withF
    rw [Int.toNat_natCast, ← HKP.out]
    exact h9
   ·rw [if_neg hs] at H
    cases H
 ·rw [if_neg he] at H
  simp only [Option.some.injEq, Prod.mk.injEq] at H
  obtain ⟨rfl, rfl⟩ := H
  have HPL := Aside0.mk (tree_place.calls A0 c0 l0 a1 a2 0 e0 w hr0 hc0 (by
   unfold tree_place.f
   rw [E1, Option.bind_some, if_neg he]))
  have heb : (e0 == 0) = false := beq_eq_false_iff_ne.2 he
  have heb2 : (e0 != 0) = true := bne_iff_ne.2 he
  clear hr0 hc0 E1 he
  go_enter Tryd.func37, Tryd.ntmps37
  go_wp2_with (go_at_call 64; (with_reducible refine HPL.out.mono ?_); rintro e w1 ⟨rfl, hb⟩; have HB := Aside0.mk hb; clear hb)
  go_ret2
  exact ⟨_, rfl, Kd.R_nil _ _ _ _ _, HB.out⟩
end Go.Proofs.YtnalcjgefbelnaaDoor.Q
end
section
set_option linter.unusedSimpArgs false
set_option linter.unusedVariables false
namespace Go.Proofs.YtnalcjgefbelnaaDoor.Q
open Go.RowKit Go.Proofs.YtnalcjgefbelnaaDoorW.PrintWords Go.Proofs.YtnalcjgefbelnaaDoorW.PrintLast
theorem idxP_not {α : Type} (P : α → Bool) (l : List α) (h : idxP P l < 0) : ∀ x ∈ l, P x = false := fun x hx => by
 have h1 := idxP_any P l
 cases hp : P x with
 | false => rfl
 | true =>
  rw [List.any_eq_true.2 ⟨x, hx, hp⟩] at h1
  have := of_decide_eq_true h1
  omega
def nm (x : S53) : List UInt8 := x.f0.toList
def okD (x : S53) : Prop := namedF x.f0 = true ∧ x.f1.length ≤ 256
theorem isP_nm (s : ByteArray) (x : S53) : isP s x = true ↔ nm x = s.toList := by
 unfold isP nm
 exact beq_iff_eq
theorem isP_ne (s : ByteArray) (x : S53) : isP s x = false ↔ nm x ≠ s.toList := by
 unfold isP nm
 exact beq_eq_false_iff_ne
theorem getD_get (l : List S53) (i : Nat) (h : i < l.length) : l.getD i z53 = l[i] := by
 rw [List.getD_eq_getElem?_getD, List.getElem?_eq_getElem h]
 rfl
theorem props_iff (l : List S53) : propsF l = true ↔ l.length ≤ 16 ∧ (∀ x ∈ l, okD x) ∧ (l.map nm).Nodup := by
 unfold propsF
 rw [Bool.and_eq_true, decide_eq_true_eq, List.all_eq_true]
 constructor
 ·rintro ⟨h1, h2⟩
  have h3 : ∀ (i : Nat) (hi : i < l.length), namedF l[i].f0 = true ∧ l[i].f1.length ≤ 256 ∧ (l.take i).any (isP l[i].f0) = false := fun i hi => by
   have h4 := h2 i (List.mem_range.2 hi)
   unfold pOk at h4
   rw [getD_get l i hi] at h4
   simp only [Bool.and_eq_true, decide_eq_true_eq, Bool.not_eq_true'] at h4
   exact h4
  refine ⟨h1, fun x hx => ?_, List.pairwise_map.2 (List.pairwise_iff_getElem.2 fun i j hi hj hij he => ?_)⟩
  ·obtain ⟨i, hi, rfl⟩ := List.mem_iff_getElem.1 hx
   exact ⟨(h3 i hi).1, (h3 i hi).2.1⟩
  ·have h4 := (h3 j hj).2.2
   rw [List.any_eq_true.2 ⟨l[i], by
    refine List.mem_iff_getElem.2 ⟨i, by rw [List.length_take]; omega, ?_⟩
    rw [List.getElem_take], (isP_nm _ _).2 he⟩] at h4
   cases h4
 ·rintro ⟨h1, h2, h3⟩
  refine ⟨h1, fun i hi => ?_⟩
  rw [List.mem_range] at hi
  unfold pOk
  rw [getD_get l i hi]
  have h4 := h2 _ (List.getElem_mem hi)
  simp only [Bool.and_eq_true, decide_eq_true_eq, Bool.not_eq_true']
  refine ⟨h4.1, h4.2, ?_⟩
  cases ha : (l.take i).any (isP l[i].f0) with
  | false => rfl
  | true =>
   obtain ⟨x, hx, hp⟩ := List.any_eq_true.1 ha
   obtain ⟨j, hj, rfl⟩ := List.mem_iff_getElem.1 hx
   rw [List.length_take] at hj
   rw [List.getElem_take] at hp
   have h5 := List.pairwise_iff_getElem.1 (List.pairwise_map.1 h3) j i (by omega) hi (by omega)
   exact absurd ((isP_nm _ _).1 hp) h5
theorem rd53_get (l : List S53) (i : Int) (h0 : 0 ≤ i) (h1 : i.toNat < l.length) : rd_T53 l i = l[i.toNat] := getD_get l i.toNat h1
theorem names_set (l : List S53) (k : Nat) (hk : k < l.length) (d : List Int) : (l.set k ⟨l[k].f0, d⟩).map nm = l.map nm := by
 rw [List.map_set]
 apply List.ext_getElem?
 intro j
 rw [List.getElem?_set]
 split
 ·rename_i e
  subst e
  rw [List.length_map, if_pos hk, List.getElem?_map, List.getElem?_eq_getElem hk]
  rfl
 ·rfl
section
variable {l : List S53} {s : ByteArray} {d : List Int}
theorem put_props (h : propsF l = true) (hs : namedF s = true) (hd : d.length ≤ 256) (h16 : ¬ (idxP (isP s) l < 0 ∧ (l.length : Int) = 16)) : propsF (putF l (idxP (isP s) l) s d) = true := by
 have hr := idxP_range (isP s) l
 obtain ⟨h1, h2, h3⟩ := (props_iff l).1 h
 unfold putF
 by_cases hp : idxP (isP s) l < 0
 ·rw [if_pos hp]
  refine (props_iff _).2 ⟨by rw [List.length_append, List.length_singleton]; omega, fun x hx => ?_, ?_⟩
  ·rcases List.mem_append.1 hx with hx | hx
   ·exact h2 x hx
   ·rw [List.mem_singleton] at hx
    subst hx
    exact ⟨hs, hd⟩
  ·rw [List.map_append]
   refine List.nodup_append.2 ⟨h3, by simp, fun a ha b hb => ?_⟩
   obtain ⟨x, hx, rfl⟩ := List.mem_map.1 ha
   obtain ⟨y, hy, rfl⟩ := List.mem_map.1 hb
   rw [List.mem_singleton] at hy
   subst hy
   exact (isP_ne s x).1 (idxP_not _ l hp x hx)
 ·rw [if_neg hp]
  have hk : (idxP (isP s) l).toNat < l.length := by omega
  rw [rd53_get l _ (by omega) hk]
  refine (props_iff _).2 ⟨by rw [List.length_set]; exact h1, fun x hx => ?_, by rw [names_set l _ hk]; exact h3⟩
  rcases List.mem_or_eq_of_mem_set hx with hx | rfl
  ·exact h2 x hx
  ·exact ⟨(h2 _ (List.getElem_mem hk)).1, hd⟩
theorem erase_props (h : propsF l = true) (k : Nat) : propsF (l.eraseIdx k) = true := by
 obtain ⟨h1, h2, h3⟩ := (props_iff l).1 h
 have hsub := List.eraseIdx_sublist l k
 exact (props_iff _).2 ⟨Nat.le_trans hsub.length_le h1, fun x hx => h2 x (hsub.subset hx), h3.sublist (hsub.map nm)⟩
end
/-! ### A device with other properties -/
section
variable {t : List S44} {n : Int} {l : List S53}
theorem with_len : (withF t n l).length = t.length := by unfold withF; rw [List.length_set]
theorem with_same (h0 : 0 ≤ n) (h1 : n < t.length) : rd_T44 (withF t n l) n = ⟨(rd_T44 t n).f0, (rd_T44 t n).f1, (rd_T44 t n).f2, l, (rd_T44 t n).f4⟩ := by
 have h := rd44_set t n.toNat ⟨(rd_T44 t n).f0, (rd_T44 t n).f1, (rd_T44 t n).f2, l, (rd_T44 t n).f4⟩ (by omega)
 rw [show ((n.toNat : Nat) : Int) = n by omega] at h
 exact h
theorem with_else (i : Int) (hi0 : 0 ≤ i) (h0 : 0 ≤ n) (hi : i ≠ n) : rd_T44 (withF t n l) i = rd_T44 t i := by
 unfold withF rd_T44
 rw [List.getD_eq_getElem?_getD, List.getElem?_set_ne (by omega), ← List.getD_eq_getElem?_getD]
theorem form_with (hF : treeF t = true) (h0 : 0 ≤ n) (h1 : n < t.length) (hl : propsF l = true) : treeF (withF t n l) = true := by
 have hln := form_len hF
 have hmap : (withF t n l).map (fun x => (x.f0, x.f1, x.f2)) = t.map (fun x => (x.f0, x.f1, x.f2)) := by
  unfold withF
  rw [List.map_set]
  apply List.ext_getElem?
  intro j
  rw [List.getElem?_set]
  split
  ·rename_i e
   subst e
   rw [List.length_map, if_pos (by omega), List.getElem?_map, List.getElem?_eq_getElem (show n.toNat < t.length by omega)]
   unfold rd_T44
   rw [List.getD_eq_getElem?_getD, List.getElem?_eq_getElem (show n.toNat < t.length by omega)]
   rfl
  ·rfl
 refine form_of (by rw [with_len]; exact hln.1) (by rw [with_len]; exact hln.2) fun i hi => ?_
 rw [with_len] at hi
 have hN := form_node hF i hi
 have hany : ∀ p s u, ((withF t n l).take i).any (isN p s u) = (t.take i).any (isN p s u) := fun p s u => by
  have e1 : ∀ q : List S44, q.any (isN p s u) = (q.map (fun x => (x.f0, x.f1, x.f2))).any (fun y => (y.2.2 == p) && ((y.1.toList == s.toList) && decide (y.2.1 = u))) := fun q => by
   rw [List.any_map]
   rfl
  rw [e1, e1, List.map_take, List.map_take, hmap]
 have hget : (withF t n l).getD i z44 = rd_T44 (withF t n l) (i : Int) := by unfold rd_T44; rw [Int.toNat_natCast]
 have hget2 : t.getD i z44 = rd_T44 t (i : Int) := by unfold rd_T44; rw [Int.toNat_natCast]
 unfold nodeOk at hN ⊢
 unfold kidOk at hN ⊢
 rw [hget2] at hN
 rw [hget]
 by_cases he : (i : Int) = n
 ·rw [he] at hN ⊢
  rw [with_same h0 h1]
  simp only [hany]
  simp only [Bool.and_eq_true] at hN ⊢
  exact ⟨⟨hN.1.1, hl⟩, hN.2⟩
 ·rw [with_else _ (by omega) h0 he]
  simp only [hany]
  exact hN
theorem good_with (h : GoodT t) (h0 : 0 ≤ n) (h1 : n < t.length) (hl : l.length < 3518437208883) (hd : ∀ p ∈ l, p.f1.length < 140737488355328) : GoodT (withF t n l) := by
 refine ⟨by rw [with_len]; exact h.1, fun x hx => ?_⟩
 unfold withF at hx
 have hg := h.2 _ (rd44_mem t n h0 h1)
 rcases List.mem_or_eq_of_mem_set hx with hx | rfl
 ·exact h.2 x hx
 ·exact ⟨hg.1, hg.2.1, hl, hd⟩
end
end Go.Proofs.YtnalcjgefbelnaaDoor.Q
end
section
set_option linter.unusedSimpArgs false
set_option linter.unusedVariables false
namespace Go.Proofs.YtnalcjgefbelnaaDoor.Q
open Go.RowKit Go.Proofs.YtnalcjgefbelnaaDoorW.PrintWords Go.Proofs.YtnalcjgefbelnaaDoorW.PrintLast
/-- What stands once a property was put. -/
theorem put_facts {z : List S44} (hG : GoodT z) {n : Int} {s : ByteArray} {d : List Int} (he : tree_check.f z n = some 0) (hs : namedF s = true) (hd : d.length ≤ 256) (h16 : ¬ (plcF z n s < 0 ∧ ((rd_T44 z n).f3.length : Int) = 16)) :
  propsF (putF (rd_T44 z n).f3 (plcF z n s) s d) = true ∧ tree_check.f (withF z n (putF (rd_T44 z n).f3 (plcF z n s) s d)) n = some 0 ∧ GoodT (withF z n (putF (rd_T44 z n).f3 (plcF z n s) s d)) := by
 obtain ⟨h0, h1⟩ := check_in he
 have hF := check_form he
 have hp := put_props (d := d) (node_props hF n h0 h1) hs hd h16
 have hq := (props_iff _).1 hp
 exact ⟨hp, check_ok (form_with hF h0 h1 hp) h0 (by rw [with_len]; exact h1), good_with hG h0 h1 (by have := hq.1; show (putF (rd_T44 z n).f3 (idxP (isP s) (rd_T44 z n).f3) s d).length < _; omega) (fun p hp2 => by have := (hq.2.1 p hp2).2; omega)⟩
theorem set_eq8 {z : List S44} (hG : GoodT z) {n : Int} (s : ByteArray) (d : List Int) (he : tree_check.f z n = some 0) : tree_Set.f z n s d = some (if namedF s = true then (if (256 : Int) < (d.length : Int) then ([], 3) else if plcF z n s < 0 ∧ ((rd_T44 z n).f3.length : Int) = 16 then ([], 22) else (withF z n (putF (rd_T44 z n).f3 (plcF z n s) s d), 0)) else ([], 1)) := by
 obtain ⟨h0, h1⟩ := check_in he
 have h16 := props_len (node_props (check_form he) n h0 h1)
 unfold tree_Set.f
 rw [he, Option.bind_some, if_pos rfl]
 by_cases hs : namedF s = true
 ·rw [if_pos hs, if_pos hs]
  by_cases hd : (256 : Int) < (d.length : Int)
  ·rw [if_pos hd, if_pos hd]
  ·rw [if_neg hd, if_neg hd]
   by_cases hm : plcF z n s < 0 ∧ ((rd_T44 z n).f3.length : Int) = 16
   ·rw [if_pos hm, if_pos hm]
   ·rw [if_neg hm, if_neg hm, if_pos ⟨short_of hG, h16⟩]
 ·rw [if_neg hs, if_neg hs]
theorem set_all {z : List S44} (hG : GoodT z) (n : Int) (s : ByteArray) (d : List Int) : ∃ R : List S44 × Int, tree_Set.f z n s d = some R ∧ GoodT R.1 ∧ (R.2 = 0 → treeF R.1 = true) := by
 obtain ⟨e, he⟩ := check_some z n
 by_cases h0 : e = 0
 ·subst h0
  refine ⟨_, set_eq8 hG s d he, ?_⟩
  by_cases hs : namedF s = true
  ·rw [if_pos hs]
   by_cases hd : (256 : Int) < (d.length : Int)
   ·rw [if_pos hd]
    exact ⟨good_nil, fun h => absurd h (by decide)⟩
   ·rw [if_neg hd]
    by_cases h16 : plcF z n s < 0 ∧ ((rd_T44 z n).f3.length : Int) = 16
    ·rw [if_pos h16]
     exact ⟨good_nil, fun h => absurd h (by decide)⟩
    ·rw [if_neg h16]
     obtain ⟨f1, f2, f3⟩ := put_facts (d := d) hG he hs (by omega) h16
     exact ⟨f3, fun _ => check_form f2⟩
  ·rw [if_neg hs]
   exact ⟨good_nil, fun h => absurd h (by decide)⟩
 ·refine ⟨([], e), ?_, good_nil, fun h => absurd h h0⟩
  unfold tree_Set.f
  rw [he, Option.bind_some, if_neg h0]
theorem drop_all {z : List S44} (hG : GoodT z) (n : Int) (s : ByteArray) : ∃ R : List S44 × Int, tree_Drop.f z n s = some R ∧ GoodT R.1 ∧ (R.2 = 0 → treeF R.1 = true) := by
 obtain ⟨e, he⟩ := check_some z n
 by_cases h0 : e = 0
 ·subst h0
  obtain ⟨a0, a1⟩ := check_in he
  have hF := check_form he
  have hpz := node_props hF n a0 a1
  have h16 := props_len hpz
  by_cases hp : plcF z n s < 0
  ·refine ⟨([], 2), ?_, good_nil, fun h => absurd h (by decide)⟩
   unfold tree_Drop.f
   rw [he, Option.bind_some, if_pos rfl, if_pos hp]
  ·have hep := erase_props hpz (plcF z n s).toNat
   have heq := (props_iff _).1 hep
   refine ⟨(withF z n ((rd_T44 z n).f3.eraseIdx (plcF z n s).toNat), 0), ?_, good_with hG a0 a1 (by have := heq.1; omega) (fun p hp2 => by have := (heq.2.1 p hp2).2; omega), fun _ => form_with hF a0 a1 hep⟩
   unfold tree_Drop.f
   rw [he, Option.bind_some, if_pos rfl, if_neg hp, if_pos ⟨short_of hG, h16⟩]
 ·refine ⟨([], e), ?_, good_nil, fun h => absurd h h0⟩
  unfold tree_Drop.f
  rw [he, Option.bind_some, if_neg h0]
end Go.Proofs.YtnalcjgefbelnaaDoor.Q
end
