/- Contracts of Go functions and plain facts, of several texts, one behind the other; no condition. -/
import Derived.Test.YtefhngadeimklaaDoorMVarsKeeps2
import Derived.Test.YtefhngadeimklaaDoorMVarsKeeps3
import Derived.ChangeArms
import Derived.OpenShut
import Derived.SizedLaws
section
namespace Go.Proofs.YtefhngadeimklaaDoor.Q
open Go.RowKit Go.Proofs.YtefhngadeimklaaDoorW.PrintWords Go.Proofs.YtefhngadeimklaaDoorW.PrintLast Go.Proofs.YtefhngadeimklaaDoorW.PrintMore
attribute [local go_sem] max2_int min2_int max_two min_two max_three min_three max_four min_four
set_option linter.unusedVariables false
def limS : ByteArray := ⟨#[98, 111, 111, 116, 45, 108, 105, 109, 105, 116]⟩
def tinderlaw19_alive.f : Option Bool := some true
theorem par_007 : parF (⟨#[48, 48, 55]⟩ : ByteArray) 10 = (7, 0) := by kernel_rfl
theorem show_7 : showB 10 7 = ⟨#[55]⟩ := by
  unfold showB
  rw [showL_small (by decide)]
  rfl
theorem find_lim : vars_find.f 20 (⟨#[98, 111, 111, 116, 45, 108, 105, 109, 105, 116]⟩ : ByteArray) = some (⟨#[98, 111, 111, 116, 45, 108, 105, 109, 105, 116]⟩, 1, ⟨#[53, 48, 48, 48]⟩, 3, true) := by kernel_rfl
theorem right_nil : vars_Right.f 5 [] = some true := by kernel_rfl
theorem form_7 : vars_Form.f 100 (⟨#[98, 111, 111, 116, 45, 108, 105, 109, 105, 116]⟩ : ByteArray) (⟨#[48, 48, 55]⟩ : ByteArray) = some (⟨#[55]⟩, 0) := by
  have h1 : vars_find.f 100 (⟨#[98, 111, 111, 116, 45, 108, 105, 109, 105, 116]⟩ : ByteArray) = some (⟨#[98, 111, 111, 116, 45, 108, 105, 109, 105, 116]⟩, 1, ⟨#[53, 48, 48, 48]⟩, 3, true) := by kernel_rfl
  have h2 : digit_Parse.f 100 (⟨#[48, 48, 55]⟩ : ByteArray) 10 = some (7, 0) := by rw [parse_eq _ _ _ (by decide) (by decide), par_007]
  have h3 : digit_Show.f 7 10 = some (⟨#[55]⟩, 0) := by
    unfold digit_Show.f
    rw [if_pos (by decide), if_pos rfl, show_7]
  unfold vars_Form.f vars_variable_form.f
  rw [h1, Option.bind_some, if_pos rfl, if_neg (by decide), if_pos rfl, h2, Option.bind_some, if_pos rfl, h3]
  rfl
theorem blk_keep {n i : Nat} {w w1 : World} {o : Obj} (hb : Below n w w1) (hi : i < n) (h : w.heap[i]? = some o) : w1.heap[i]? = some o := by rw [hb.block _ hi]; exact h
theorem two_get (w : World) (o o2 : Obj) : ((w.alloc o).alloc o2).heap[w.heap.size]? = some o := by
  unfold World.alloc
  simp [Array.getElem?_push]
theorem size_one (w : World) (o : Obj) : (w.alloc o).heap.size = w.heap.size + 1 := by
  unfold World.alloc
  simp
theorem size_two (w : World) (o o2 : Obj) : ((w.alloc o).alloc o2).heap.size = w.heap.size + 2 := by rw [size_one, size_one]
theorem get_one (w : World) (o : Obj) : (w.alloc o).heap[w.heap.size]? = some o := by
  unfold World.alloc
  simp
theorem C_one40 (W : World) (b : Nat) (x : S40) (h : W.heap[b]? = some (.cells #[.string x.f0, .string x.f1] 40 (0, 0))) : Kd.C k40 W (some ⟨b, 0, none⟩) 1 [x] := by
  refine ⟨rfl, by decide, fun _ => ⟨_, rfl, fun j p hj => ?_⟩⟩
  obtain ⟨hl, hp⟩ := List.getElem?_eq_some_iff.1 hj
  obtain rfl : j = 0 := by simpa using hl
  obtain rfl : x = p := hp
  refine ⟨_, rfl, k40_mk W x, fun j u hu => ?_⟩
  have := blk_cell h j
  rw [show (⟨b, 0, none⟩ : Addr).add (0 * k40.sz + j) = ⟨b, j, none⟩ from by rw [Nat.zero_mul, Nat.zero_add]; unfold Addr.add; split <;> simp_all]
  rw [this]
  simpa using hu
set_option maxHeartbeats 4000000 in
set_option maxRecDepth 100000 in
theorem setSeven_calls (w : World) (ht : Tabs w) :
    Calls Tryd.prog 13 #[.slice none 0 0, .string ⟨#[98, 111, 111, 116, 45, 108, 105, 109, 105, 116]⟩, .string ⟨#[48, 48, 55]⟩] w fun e w' => ∃ v, e = .returned (.tuple #[v, .int .i64 0]) ∧ Kd.R k40 40 w' w.heap.size (fun _ => True) v [⟨⟨#[98, 111, 111, 116, 45, 108, 105, 109, 105, 116]⟩, ⟨#[55]⟩⟩] ∧ Below w.heap.size w w' := by
  have hu57 := Tryd.underlying57
  have HT := Aside0.mk ht
  have HRI := Aside0.mk (fun (W : World) (hT : Tabs W) => (show Calls Tryd.prog 16 #[.slice none 0 0] W (fun e w' => e = .returned (.bool true) ∧ Below W.heap.size W w') from vars_Right.calls 5 none 0 [] true W hT (Kd.C_nil _ _) (Nat.le_refl _) right_nil))
  have HFM := Aside0.mk (fun (W : World) (hT : Tabs W) => vars_Form.calls 100 _ _ _ _ W hT form_7)
  have HFD := Aside0.mk (fun (W : World) => vars_find.calls 20 _ _ _ _ _ _ W find_lim)
  have HB := Aside0.mk (Below.refl w.heap.size w)
  clear ht
  go_enter Tryd.func13, Tryd.ntmps13
  go_wp2_with (first
    | (go_at_call 16; (with_reducible refine (HRI.out _ HT.out).mono ?_); rintro e w1 ⟨rfl, hb⟩; have HB := Aside0.mk hb; have HT := Aside0.mk (HT.out.below hb); clear hb)
    | (go_at_call 17; (with_reducible refine (HFM.out _ HT.out).mono ?_); rintro e w2 ⟨rfl, hb⟩; have HB := Aside0.mk (below_step HB.out hb); clear hb)
    | (go_at_call 39; (with_reducible refine (cloneNil_calls _).mono ?_); rintro e w4 ⟨rfl, hb⟩; have BK := Aside0.mk (show w4.heap[w3.heap.size]? = some (.cells #[.string ⟨#[98, 111, 111, 116, 45, 108, 105, 109, 105, 116]⟩, .int .i64 1, .string ⟨#[53, 48, 48, 48]⟩] 57 (0, 0)) from by rw [hb.block _ (by rw [size_two]; omega)]; exact two_get _ _ _); have HS := Aside0.mk (show w3.heap.size < w4.heap.size from Nat.lt_of_lt_of_le (by rw [size_two]; omega) hb.size); have HB := Aside0.mk (below_step (below_alloc (below_alloc HB.out _) _) hb); clear hb)
    | (go_at_call 40; (with_reducible refine (named_calls _ _).mono ?_); rintro e w5 ⟨gb, rfl, _, _, hb⟩; have BK := Aside0.mk (blk_keep hb HS.out BK.out); have HS := Aside0.mk (Nat.lt_of_lt_of_le HS.out hb.size); have HB := Aside0.mk (below_step HB.out hb); clear hb)
    | (go_at_call 38; (with_reducible refine (deleteNil_calls _ _).mono ?_); rintro e w6 ⟨rfl, hb⟩; have BK := Aside0.mk (blk_keep hb HS.out BK.out); have HB := Aside0.mk (below_step HB.out hb); clear hb; have hz0 := (blk_cell BK.out 0).trans rfl; have hz1 := (blk_cell BK.out 1).trans rfl; have hz2 := (blk_cell BK.out 2).trans rfl; have hf2 := blk_frozen BK.out 2)
    | (go_at_call 41; (with_reducible refine (indexNil_calls _ _).mono ?_); rintro e w7 ⟨rfl, hb⟩; have HB := Aside0.mk (below_step HB.out hb); clear hb)
    | (go_at_call 43; (with_reducible refine (insertNil_calls _ _ _ (C_one40 _ _ ⟨⟨#[98, 111, 111, 116, 45, 108, 105, 109, 105, 116]⟩, ⟨#[55]⟩⟩ ?hC)).mono ?_); (case hC => exact get_one _ _); rintro e w8 ⟨v, rfl, hr, hb⟩; have HR := Aside0.mk (Kd.R_lower hr (below_size (below_alloc HB.out _))); have HB := Aside0.mk (below_step (below_alloc HB.out _) hb); clear hb hr)
    | (go_at_call 37; (with_reducible refine (HFD.out _).mono ?_); rintro e w3 ⟨rfl, hb⟩; have HB := Aside0.mk (below_step HB.out hb); clear hb))
  go_ret2
  exact ⟨_, rfl, HR.out, HB.out⟩
set_option maxHeartbeats 2000000 in
set_option maxRecDepth 100000 in
theorem tinderlaw19_alive.calls (r : Bool) (w : World) (ht : Tabs w) (h : tinderlaw19_alive.f = some r) :
    Calls Tryd.prog 11 #[] w fun e w' => e = .returned (.bool r) ∧ Below w.heap.size w w' := by
  obtain rfl := Option.some.inj h
  have hu40 := Tryd.underlying40
  have HI := Aside0.mk (setSeven_calls w ht)
  have e1 : ((⟨#[98, 111, 111, 116, 45, 108, 105, 109, 105, 116]⟩ : ByteArray).toList == (⟨#[98, 111, 111, 116, 45, 108, 105, 109, 105, 116]⟩ : ByteArray).toList) = true := by rw [beq_iff_eq]
  clear ht h
  go_enter Tryd.func11, Tryd.ntmps11
  go_wp2_with (first
    | (go_at_call 13; refine HI.out.mono ?_; rintro e w1 ⟨v, rfl, hr, hb⟩; obtain ⟨A, c, rfl, hc, hC⟩ := Kd.R_reads hr; obtain ⟨ad, eA, hx0, hx1⟩ := at_T40 hC 0 (by decide) (by decide); cases eA; replace hx0 : w1.cell? ad = some (.string ⟨#[98, 111, 111, 116, 45, 108, 105, 109, 105, 116]⟩) := hx0; replace hx1 : w1.cell? ⟨ad.block, ad.off + 1, none⟩ = some (.string ⟨#[55]⟩) := hx1; have HB1 := Aside0.mk hb; clear hb hr hC hc))
  go_ret
  exact ⟨rfl, HB1.out⟩
end Go.Proofs.YtefhngadeimklaaDoor.Q
end
section
namespace Go.Proofs.YtefhngadeimklaaDoor.Q
open Go.RowKit Go.Proofs.YtefhngadeimklaaDoorW.PrintWords Go.Proofs.YtefhngadeimklaaDoorW.PrintLast Go.Proofs.YtefhngadeimklaaDoorW.PrintMore
set_option linter.unusedVariables false
set_option linter.unusedSimpArgs false

attribute [local go_sem] max2_int min2_int max_two min_two max_three min_three max_four min_four
/-! ### tinderlaw19_VarsForms: function 4 -/
mutual
def tinderlaw19_VarsForms.j0 : Nat → List ByteArray → List ByteArray → Bool → Option (Bool)
  | 0, _, _, _ => none
  | k + 1, x13, x14, x66 => if x66 = true then (some false) else (tinderlaw19_VarsForms.l0 k x13 x14 0)
def tinderlaw19_VarsForms.l0 : Nat → List ByteArray → List ByteArray → Int → Option (Bool)
  | 0, _, _, _ => none
  | k + 1, x13, x14, x15 => if x15 < (x13.length : Int) then (if 0 ≤ x15 then (if x15 < (x14.length : Int) then (if (rdOf ByteArray.empty x13 x15).toList = (rdOf ByteArray.empty x14 x15).toList then (tinderlaw19_VarsForms.l0 k x13 x14 (wrap64 (x15 + 1))) else (some false)) else (none)) else (none)) else (some true)
end
def tinderlaw19_VarsForms.f (k : Nat) (a0 : ByteArray) (a1 : ByteArray) : Option (Bool) := (tinderlaw19_alive.f).bind fun t5001 => (if t5001 = true then ((vars_Form.f k a0 a1).bind fun bt5002 => ((tinderref19_Form.f k a0 a1).bind fun bt5004 => ((vars_Default.f k a0).bind fun bt5006 => ((tinderref19_Default.f k a0).bind fun bt5008 => ((vars_Names.f k).bind fun t5010 => ((tinderref19_Names.f k).bind fun t5013 => (if bt5002.1.toList = bt5004.1.toList then (if bt5002.2 = bt5004.2 then (if bt5006.1.toList = bt5008.1.toList then (if bt5006.2 = bt5008.2 then (tinderlaw19_VarsForms.j0 k t5010 t5013 ((t5010.length : Int) != (t5013.length : Int))) else (tinderlaw19_VarsForms.j0 k t5010 t5013 true)) else (tinderlaw19_VarsForms.j0 k t5010 t5013 true)) else (tinderlaw19_VarsForms.j0 k t5010 t5013 true)) else (tinderlaw19_VarsForms.j0 k t5010 t5013 true)))))))) else (some false))

/-- THE ONE PURE STATEMENT of tinderlaw19_VarsForms: yours. -/
def tinderlaw19_VarsForms.Pure : Prop := ∀ (a0 : ByteArray) (a1 : ByteArray), a0.size ≤ 140737488351232 → a1.size ≤ 140737488351232 → ∃ k, tinderlaw19_VarsForms.f k a0 a1 = some true

end Go.Proofs.YtefhngadeimklaaDoor.Q
end
section
namespace Go.Proofs.YtefhngadeimklaaDoor.Q
open Go.RowKit Go.Proofs.YtefhngadeimklaaDoorW.PrintWords Go.Proofs.YtefhngadeimklaaDoorW.PrintLast Go.Proofs.YtefhngadeimklaaDoorW.PrintMore
set_option linter.unusedVariables false
set_option linter.unusedSimpArgs false

attribute [local go_sem] max2_int min2_int max_two min_two max_three min_three max_four min_four
/-! ### tinderref19_value: function 44 -/
def tinderref19_value.l0 : Nat → List (S40) → ByteArray → Int → Option (ByteArray)
  | 0, _, _, _ => none
  | k + 1, x0, x1, x5 => if x5 < (x0.length : Int) then (if 0 ≤ x5 then (if ((rd_T40 x0 x5).f0).toList = x1.toList then (some ((rd_T40 x0 x5).f1)) else (tinderref19_value.l0 k x0 x1 (wrap64 (x5 + 1)))) else (none)) else ((tinderref19_Default.f k x1).bind fun bt45003 => (some bt45003.1))
def tinderref19_value.f (k : Nat) (l0 : List (S40)) (a1 : ByteArray) : Option (ByteArray) := tinderref19_value.l0 k l0 a1 0

end Go.Proofs.YtefhngadeimklaaDoor.Q
end
section
namespace Go.Proofs.YtefhngadeimklaaDoor.Q
open Go.RowKit Go.Proofs.YtefhngadeimklaaDoorW.PrintWords Go.Proofs.YtefhngadeimklaaDoorW.PrintLast Go.Proofs.YtefhngadeimklaaDoorW.PrintMore
set_option linter.unusedVariables false
set_option linter.unusedSimpArgs false

attribute [local go_sem] max2_int min2_int max_two min_two max_three min_three max_four min_four
/-! ### tinderref19_Get: function 24 -/
def tinderref19_Get.f (k : Nat) (l0 : List (S40)) (a1 : ByteArray) : Option (ByteArray × Int) := (tinderref19_Right.f k l0).bind fun t25001 => (if t25001 = true then ((tinderref19_find.f k a1).bind fun t25002 => (if t25002 < 0 then (some ((⟨#[]⟩ : ByteArray), 2)) else ((tinderref19_value.f k l0 a1).bind fun t25003 => (some (t25003, 0))))) else (some ((⟨#[]⟩ : ByteArray), 1)))

end Go.Proofs.YtefhngadeimklaaDoor.Q
end
section
namespace Go.Proofs.YtefhngadeimklaaDoor.Q
open Go.RowKit Go.Proofs.YtefhngadeimklaaDoorW.PrintWords Go.Proofs.YtefhngadeimklaaDoorW.PrintLast Go.Proofs.YtefhngadeimklaaDoorW.PrintMore
attribute [local go_sem] max2_int min2_int max_two min_two max_three min_three max_four min_four
set_option linter.unusedVariables false
def vars_Get.f (k : Nat) (l0 : List S40) (a1 : ByteArray) : Option (ByteArray × Int) := (vars_Right.f k l0).bind fun t => if t = true then (if 0 ≤ idxN a1 l0 then some ((rd_T40 l0 (idxN a1 l0)).f1, 0) else vars_Default.f k a1) else some ((⟨#[]⟩ : ByteArray), 1)
set_option maxHeartbeats 4000000 in
set_option maxRecDepth 100000 in
theorem vars_Get.calls (k : Nat) (A0 : Option Addr) (c0 : Nat) (l0 : List S40) (a1 : ByteArray) (r1 : ByteArray) (r2 : Int) (w : World) (ht : Tabs w) (hr0 : Kd.C k40 w A0 l0.length l0) (hc0 : l0.length ≤ c0) (h : vars_Get.f k l0 a1 = some (r1, r2)) :
    Calls Tryd.prog 23 #[.slice A0 l0.length c0, .string a1] w fun e w' => e = .returned (.tuple #[.string r1, .int .i64 r2]) ∧ Below w.heap.size w w' := by
  have hu40 := Tryd.underlying40
  unfold vars_Get.f at h
  obtain ⟨t, A1, H⟩ := Option.bind_eq_some_iff.mp h
  clear h
  have HRI := Aside0.mk (vars_Right.calls k A0 c0 l0 t w ht hr0 hc0 A1)
  have HC := Aside0.mk hr0
  cases t with
  | false =>
    rw [if_neg (by decide)] at H
    simp only [Option.some.injEq, Prod.mk.injEq] at H
    obtain ⟨rfl, rfl⟩ := H
    clear hr0 hc0 ht A1
    go_enter Tryd.func23, Tryd.ntmps23
    go_wp2_with (first
      | (go_at_call 16; refine HRI.out.mono ?_; rintro e w1 ⟨rfl, hb⟩; have HB := Aside0.mk hb; clear hb))
    go_ret2
    exact ⟨rfl, HB.out⟩
  | true =>
    rw [if_pos rfl] at H
    have hrg := idxN_range a1 l0
    have HRG := Aside0.mk hrg
    have HIX := Aside0.mk (fun (gb : Nat) (W : World) (hC : Kd.C k40 W A0 l0.length l0) (hh : W.heap[gb]? = some (.cells #[.string a1] 9 (0, 0))) => indexNamed_calls a1 gb A0 c0 l0 W hC hh)
    by_cases h0 : 0 ≤ idxN a1 l0
    · rw [if_pos h0] at H
      obtain ⟨i, hi⟩ : ∃ i, i = idxN a1 l0 := ⟨_, rfl⟩
      rw [← hi] at H h0 HIX hrg
      simp only [Option.some.injEq, Prod.mk.injEq] at H
      obtain ⟨rfl, rfl⟩ := H
      have d1 : decide (i ≥ 0) = true := decide_eq_true h0
      have d2 : decide (0 ≤ i) = true := decide_eq_true h0
      have p1 : (0 ≤ i) = True := eq_true h0
      have p2 : (i < (l0.length : Int)) = True := eq_true hrg.2
      have HAT := Aside0.mk (fun (W : World) (hb : Below w.heap.size w W) => at_T40 (Kd.C_below hr0 hb) i h0 hrg.2)
      obtain ⟨ad, e, _⟩ := at_T40 hr0 i h0 hrg.2
      cases e
      clear hr0 hc0 ht A1 hrg hi HRG
      go_enter Tryd.func23, Tryd.ntmps23
      go_wp2_with (first
        | (go_at_call 16; refine HRI.out.mono ?_; rintro e w1 ⟨rfl, hb⟩; have HB := Aside0.mk hb; clear hb)
        | (go_at_call 40; (with_reducible refine (named_calls _ _).mono ?_); rintro e w2 ⟨gb, rfl, _, hh, hb⟩; have HH := Aside0.mk hh; have HB := Aside0.mk (below_step HB.out hb); clear hb hh)
        | (go_at_call 41; (with_reducible refine (HIX.out gb _ (Kd.C_below HC.out HB.out) HH.out).mono ?_); rintro e w3 ⟨rfl, hb⟩; have HB := Aside0.mk (below_step HB.out hb); obtain ⟨ad', e', hx0, hx1⟩ := HAT.out _ HB.out; cases e'; clear hb))
      go_ret2
      exact ⟨rfl, HB.out⟩
    · rw [if_neg h0] at H
      obtain ⟨i, hi⟩ : ∃ i, i = idxN a1 l0 := ⟨_, rfl⟩
      rw [← hi] at h0 HIX hrg
      have d1 : decide (i ≥ 0) = false := decide_eq_false h0
      have d2 : decide (0 ≤ i) = false := decide_eq_false h0
      have HDF := Aside0.mk (fun (W : World) => vars_Default.calls k a1 r1 r2 W H)
      clear hr0 hc0 ht A1 hrg hi HRG h0 H
      go_enter Tryd.func23, Tryd.ntmps23
      go_wp2_with (first
        | (go_at_call 16; refine HRI.out.mono ?_; rintro e w1 ⟨rfl, hb⟩; have HB := Aside0.mk hb; clear hb)
        | (go_at_call 40; (with_reducible refine (named_calls _ _).mono ?_); rintro e w2 ⟨gb, rfl, _, hh, hb⟩; have HH := Aside0.mk hh; have HB := Aside0.mk (below_step HB.out hb); clear hb hh)
        | (go_at_call 41; (with_reducible refine (HIX.out gb _ (Kd.C_below HC.out HB.out) HH.out).mono ?_); rintro e w3 ⟨rfl, hb⟩; have HB := Aside0.mk (below_step HB.out hb); clear hb)
        | (go_at_call 19; (with_reducible refine (HDF.out _).mono ?_); rintro e w4 ⟨rfl, hb⟩; have HB := Aside0.mk (below_step HB.out hb); clear hb))
      go_ret2
      exact ⟨rfl, HB.out⟩
end Go.Proofs.YtefhngadeimklaaDoor.Q
end
section
namespace Go.Proofs.YtefhngadeimklaaDoor.Q
open Go.RowKit Go.Proofs.YtefhngadeimklaaDoorW.PrintWords Go.Proofs.YtefhngadeimklaaDoorW.PrintLast Go.Proofs.YtefhngadeimklaaDoorW.PrintMore
set_option linter.unusedVariables false
set_option linter.unusedSimpArgs false

attribute [local go_sem] max2_int min2_int max_two min_two max_three min_three max_four min_four
/-! ### tinderlaw19_VarsGets: function 5 -/
def tinderlaw19_VarsGets.f (k : Nat) (l0 : List (S40)) (a1 : ByteArray) : Option (Bool) := (tinderlaw19_alive.f).bind fun t6001 => (if t6001 = true then ((vars_Get.f k l0 a1).bind fun bt6002 => ((tinderref19_Get.f k l0 a1).bind fun bt6004 => (if bt6002.1.toList = bt6004.1.toList then (if bt6002.2 = bt6004.2 then ((vars_Right.f k l0).bind fun t6006 => ((tinderref19_Right.f k l0).bind fun t6007 => (some (t6006 == t6007)))) else (some false)) else (some false)))) else (some false))

end Go.Proofs.YtefhngadeimklaaDoor.Q
end
section
set_option linter.unusedSimpArgs false
set_option linter.unusedVariables false
namespace Go.Proofs.YtefhngadeimklaaDoor.Q
open Go.RowKit Go.Proofs.YtefhngadeimklaaDoorW.PrintWords Go.Proofs.YtefhngadeimklaaDoorW.PrintLast
def namesL : List ByteArray := (vars_Names.f 20).getD []
theorem rightL_mem : ∀ (l : List S40) (last : Int), rightL l last = true → ∀ x ∈ l, 0 ≤ fndF x.f0
  | [], _, _, x, hx => absurd hx (List.not_mem_nil)
  | y :: r, last, h, x, hx => by
    rw [rightL, Bool.and_eq_true] at h
    rcases List.mem_cons.1 hx with rfl | hx
    · have h1 := h.1
      unfold okV at h1
      simp only [Bool.and_eq_true] at h1
      exact of_decide_eq_true h1.1.1.1.1
    · exact rightL_mem r _ h.2 x hx
theorem idxN_name (s : ByteArray) : ∀ l : List S40, 0 ≤ idxN s l → ∃ x ∈ l, x.f0.toList = s.toList
  | [], h => absurd h (by rw [idxN]; decide)
  | y :: r, h => by
    rw [idxN] at h
    by_cases he : y.f0.toList = s.toList
    · exact ⟨y, List.mem_cons_self .., he⟩
    · rw [if_neg he] at h
      by_cases hn : idxN s r < 0
      · rw [if_pos hn] at h; exact absurd h (by decide)
      · obtain ⟨x, hx, e⟩ := idxN_name s r (by omega)
        exact ⟨x, List.mem_cons_of_mem _ hx, e⟩
def getF (l : List S40) (s : ByteArray) : ByteArray × Int := if rightF l = true then (if 0 ≤ idxN s l then ((rd_T40 l (idxN s l)).f1, 0) else defF s) else ((⟨#[]⟩ : ByteArray), 1)
theorem get_eq (l : List S40) (s : ByteArray) (hf : Fits l) (hl : l.length < 1125899906842624) (k : Nat) (hk : l.length + 140737488351400 < k) : vars_Get.f k l s = some (getF l s) := by
  unfold vars_Get.f getF
  rw [right_eq l hf hl k hk, Option.bind_some, default_eq k (by omega)]
  split
  · split <;> rfl
  · rfl
end Go.Proofs.YtefhngadeimklaaDoor.Q
end
section
namespace Go.Proofs.YtefhngadeimklaaDoor.Q
open Go.RowKit Go.Proofs.YtefhngadeimklaaDoorW.PrintWords Go.Proofs.YtefhngadeimklaaDoorW.PrintLast Go.Proofs.YtefhngadeimklaaDoorW.PrintMore
set_option linter.unusedVariables false
set_option linter.unusedSimpArgs false

attribute [local go_sem] max2_int min2_int max_two min_two max_three min_three max_four min_four
/-! ### tinderlaw19_copied: function 12 -/
def tinderlaw19_copied.f (l0 : List (S40)) : Option ((List (S40))) := if ([] : List (S40)).length + l0.length < 4398046511104 then (some (([] : List (S40)) ++ l0)) else (none)

end Go.Proofs.YtefhngadeimklaaDoor.Q
end
section
namespace Go.Proofs.YtefhngadeimklaaDoor.Q
open Go.RowKit Go.Proofs.YtefhngadeimklaaDoorW.PrintWords Go.Proofs.YtefhngadeimklaaDoorW.PrintLast Go.Proofs.YtefhngadeimklaaDoorW.PrintMore
set_option linter.unusedVariables false
set_option linter.unusedSimpArgs false

attribute [local go_sem] max2_int min2_int max_two min_two max_three min_three max_four min_four
theorem eqA40 (d : Nat) (w : World) (x0 y0 : ByteArray) (x1 y1 : ByteArray) :
    (Op.equalIn (d + 2) 40 (.agg #[.string x0, .string x1]) (.agg #[.string y0, .string y1])).run Tryd.prog w = .ok (x0.toList == y0.toList && (x1.toList == y1.toList)) w := by
  refine eqA_of Tryd.underlying40 (by kernel_rfl) ?_
  refine eqf_cons (by rfl) (by go_simp; rfl) (by go_simp; rfl) (by go_simp) ?_
  exact eqf_last (by rfl) (by go_simp; rfl) (by go_simp; rfl) (by go_simp)
end Go.Proofs.YtefhngadeimklaaDoor.Q
end
section
namespace Go.Proofs.YtefhngadeimklaaDoor.Q
open Go.RowKit Go.Proofs.YtefhngadeimklaaDoorW.PrintWords Go.Proofs.YtefhngadeimklaaDoorW.PrintLast Go.Proofs.YtefhngadeimklaaDoorW.PrintMore
set_option linter.unusedVariables false
set_option linter.unusedSimpArgs false

attribute [local go_sem] max2_int min2_int max_two min_two max_three min_three max_four min_four
attribute [local go_sem high] eqA40
/-! ### tinderref19_Same: function 15 -/
def tinderref19_Same.l0 : Nat → List (S40) → List (S40) → Int → Option (Bool)
  | 0, _, _, _ => none
  | k + 1, x0, x1, x5 => if x5 < (x0.length : Int) then (if 0 ≤ x5 then (if x5 < (x1.length : Int) then (if (!((((rd_T40 x0 x5).f0).toList) == (((rd_T40 x1 x5).f0).toList)) || (!((((rd_T40 x0 x5).f1).toList) == (((rd_T40 x1 x5).f1).toList)))) = true then (some false) else (tinderref19_Same.l0 k x0 x1 (wrap64 (x5 + 1)))) else (none)) else (none)) else (some true)
def tinderref19_Same.f (k : Nat) (l0 : List (S40)) (l1 : List (S40)) : Option (Bool) := if (l0.length : Int) = (l1.length : Int) then (tinderref19_Same.l0 k l0 l1 0) else (some false)

end Go.Proofs.YtefhngadeimklaaDoor.Q
end
section
namespace Go.Proofs.YtefhngadeimklaaDoor.Q
open Go.RowKit Go.Proofs.YtefhngadeimklaaDoorW.PrintWords Go.Proofs.YtefhngadeimklaaDoorW.PrintLast Go.Proofs.YtefhngadeimklaaDoorW.PrintMore
set_option linter.unusedVariables false
set_option linter.unusedSimpArgs false

attribute [local go_sem] max2_int min2_int max_two min_two max_three min_three max_four min_four
/-! ### tinderref19_Set: function 14 -/
def tinderref19_Set.l0 : Nat → List (S40) → ByteArray → ByteArray → List (S40) → List ByteArray → Int → Option ((List (S40)) × Int)
  | 0, _, _, _, _, _, _ => none
  | k + 1, x0, x1, x8, x10, x11, x12 => if x12 < (x11.length : Int) then (if 0 ≤ x12 then ((tinderref19_value.f k x0 (rdOf ByteArray.empty x11 x12)).bind fun t15008 => (if (rdOf ByteArray.empty x11 x12).toList = x1.toList then ((tinderref19_Default.f k (rdOf ByteArray.empty x11 x12)).bind fun bt15011 => (if x8.toList = bt15011.1.toList then (tinderref19_Set.l0 k x0 x1 x8 x10 x11 (wrap64 (x12 + 1))) else (if x10.length < 4398046511104 then (tinderref19_Set.l0 k x0 x1 x8 (x10 ++ [(⟨rdOf ByteArray.empty x11 x12, x8⟩ : S40)]) x11 (wrap64 (x12 + 1))) else (none)))) else ((tinderref19_Default.f k (rdOf ByteArray.empty x11 x12)).bind fun bt15018 => (if t15008.toList = bt15018.1.toList then (tinderref19_Set.l0 k x0 x1 x8 x10 x11 (wrap64 (x12 + 1))) else (if x10.length < 4398046511104 then (tinderref19_Set.l0 k x0 x1 x8 (x10 ++ [(⟨rdOf ByteArray.empty x11 x12, t15008⟩ : S40)]) x11 (wrap64 (x12 + 1))) else (none)))))) else (none)) else (some (x10, 0))
def tinderref19_Set.f (k : Nat) (l0 : List (S40)) (a1 : ByteArray) (a2 : ByteArray) : Option ((List (S40)) × Int) := (tinderref19_Right.f k l0).bind fun t15001 => (if t15001 = true then ((tinderref19_Form.f k a1 a2).bind fun bt15002 => (if bt15002.2 = 0 then ((tinderref19_Names.f k).bind fun t15004 => (tinderref19_Set.l0 k l0 a1 bt15002.1 ([] : List (S40)) t15004 0)) else (some (([] : List (S40)), bt15002.2)))) else (some (([] : List (S40)), 1)))

end Go.Proofs.YtefhngadeimklaaDoor.Q
end
section
namespace Go.Proofs.YtefhngadeimklaaDoor.Q
open Go.RowKit Go.Proofs.YtefhngadeimklaaDoorW.PrintWords Go.Proofs.YtefhngadeimklaaDoorW.PrintLast Go.Proofs.YtefhngadeimklaaDoorW.PrintMore
set_option linter.unusedVariables false
set_option linter.unusedSimpArgs false

attribute [local go_sem] max2_int min2_int max_two min_two max_three min_three max_four min_four
/-! ### tinderlaw19_VarsSets: function 3 -/
def tinderlaw19_VarsSets.f (k : Nat) (l0 : List (S40)) (a1 : ByteArray) (a2 : ByteArray) : Option (Bool) := (tinderlaw19_alive.f).bind fun t4001 => (if t4001 = true then ((tinderlaw19_copied.f l0).bind fun t4002 => ((vars_Set.f k t4002 a1 a2).bind fun bt4005 => ((tinderref19_Set.f k l0 a1 a2).bind fun bt4009 => ((tinderref19_Same.f k bt4005.1 bt4009.1).bind fun t4013 => (if t4013 = true then (if bt4005.2 = bt4009.2 then ((tinderref19_Same.f k t4002 l0).bind fun t4014 => (if t4014 = true then (if bt4005.2 = 0 then ((vars_Right.f k bt4005.1).bind fun t4015 => (some t4015)) else (some true)) else (some false))) else (some false)) else (some false)))))) else (some false))

end Go.Proofs.YtefhngadeimklaaDoor.Q
end
section
set_option linter.unusedSimpArgs false
set_option linter.unusedVariables false
namespace Go.Proofs.YtefhngadeimklaaDoor.Q
open Go.RowKit Go.Proofs.YtefhngadeimklaaDoorW.PrintWords Go.Proofs.YtefhngadeimklaaDoorW.PrintLast
theorem right_len : ∀ (l : List S40) (last : Int), last ≤ 8 → rightL l last = true → (l.length : Int) ≤ 8 - last
  | [], last, h0, _ => by simp; omega
  | x :: r, last, h0, h => by
    obtain ⟨h1, h2⟩ := right_cons h
    have hk := okV_known h1
    have hr := fndF_range x.f0
    have ih := right_len r _ (by omega) h2
    rw [List.length_cons]
    omega
theorem set_eq (l : List S40) (s v : ByteArray) (hf : Fits l) (hl : l.length < 1125899906842624) (hv : v.size ≤ 140737488351232) (k : Nat) (hk : l.length + 140737488351400 < k) : vars_Set.f k l s v = some (setF l s v) := by
  unfold vars_Set.f setF
  rw [right_eq l hf hl k hk, Option.bind_some, form_eq k s v hv (by omega), Option.bind_some, find_eq k (by omega), Option.bind_some]
  by_cases h1 : rightF l = true
  · rw [if_pos h1, if_pos h1]
    by_cases h2 : (formF s v).2 = 0
    · have h3 := (formF_ok h2).1
      have h4 := right_len l _ (by decide) h1
      rw [if_pos h2, if_pos h2, if_pos (by omega), fndR, if_pos h3]
      split <;> rfl
    · rw [if_neg h2, if_neg h2]
  · rw [if_neg h1, if_neg h1]
def gvF (l : List S40) (a : ByteArray) : ByteArray := if 0 ≤ idxN a l then (rd_T40 l (idxN a l)).f1 else (defF a).1
theorem gvF_cons (x : S40) (r : List S40) (a : ByteArray) : gvF (x :: r) a = if x.f0.toList = a.toList then x.f1 else gvF r a := by
  have hr := idxN_range a r
  unfold gvF
  rw [idxN]
  by_cases he : x.f0.toList = a.toList
  · rw [if_pos he, if_pos he, if_pos (by decide)]
    rfl
  · rw [if_neg he, if_neg he]
    by_cases hn : idxN a r < 0
    · rw [if_pos hn, if_neg (by decide), if_neg (by omega)]
    · rw [if_neg hn, if_pos (by omega), if_pos (by omega)]
      unfold rd_T40
      rw [show (idxN a r + 1).toNat = (idxN a r).toNat + 1 by omega, List.getD_cons_succ]
/-- Those from a on, ahead of b. -/
def midV (a b : Int) (l : List S40) : List S40 := l.filter fun y => decide (a ≤ fndF y.f0) && decide (fndF y.f0 < b)
def refP (l : List S40) (s v : ByteArray) (i : Int) : List S40 := if (nmV i).toList = s.toList then (if v.toList = (stV i).toList then [] else [(⟨nmV i, v⟩ : S40)]) else (if (gvF l (nmV i)).toList = (stV i).toList then [] else [(⟨nmV i, gvF l (nmV i)⟩ : S40)])
def refL (l : List S40) (s v : ByteArray) : Nat → Int → List S40
  | 0, _ => []
  | d + 1, i => refP l s v i ++ refL l s v d (i + 1)
theorem setF_small (l : List S40) (s v : ByteArray) : (setF l s v).1.length ≤ l.length + 1 := by
  unfold setF
  have h := delN_len s l
  split
  · split
    · split
      · show (delN s l).length ≤ _; omega
      · show (insS _ _ (delN s l)).length ≤ _
        rw [insS_eq]
        split
        · simp; omega
        · simp only [List.length_append, List.length_cons, List.length_take, List.length_drop]; omega
    · simp
  · simp
theorem form_size (kd : Int) (v : ByteArray) (hv : v.size ≤ 140737488351232) : (formV kd v).1.size ≤ 140737488351232 := by
  by_cases h0 : kd = 0
  · subst h0; rw [formV_0]; exact hv
  · by_cases h1 : kd = 1
    · subst h1
      rw [formV_1]
      split
      · have := showB_small 10 (parF v 10).1 (by decide) (par_range v 10 (by decide) (by omega))
        show (showB 10 (parF v 10).1).size ≤ _
        omega
      · show (⟨#[]⟩ : ByteArray).size ≤ _; decide
    · rw [formV_2 kd v h0 h1]
      split
      · exact hv
      · show (⟨#[]⟩ : ByteArray).size ≤ _; decide
theorem setF_fits (l : List S40) (hf : Fits l) (s v : ByteArray) (hs : s.size ≤ 140737488351232) (hv : v.size ≤ 140737488351232) : Fits (setF l s v).1 := by
  have hd : Fits (delN s l) := fun x hx => hf x (List.mem_filter.1 hx).1
  have hx : (formF s v).2 = 0 → (formF s v).1.size ≤ 140737488351232 := fun h => by
    rw [(formF_ok h).2.2]
    exact form_size _ v hv
  unfold setF
  split
  · split
    · rename_i h2
      split
      · exact hd
      · intro y hy
        have hy : y ∈ insS (fndF s) ⟨s, (formF s v).1⟩ (delN s l) := hy
        rw [insS_eq] at hy
        have key : y ∈ delN s l ∨ y = ⟨s, (formF s v).1⟩ := by
          split at hy
          · rcases List.mem_append.1 hy with h | h
            · exact .inl h
            · exact .inr (List.mem_singleton.1 h)
          · rcases List.mem_append.1 hy with h | h
            · exact .inl (List.mem_of_mem_take h)
            · rcases List.mem_cons.1 h with h | h
              · exact .inr h
              · exact .inl (List.mem_of_mem_drop h)
        rcases key with h | h
        · exact hd y h
        · subst h
          exact ⟨hs, hx h2⟩
    · intro y hy; cases hy
  · intro y hy; cases hy
theorem getF_known (l : List S40) (a : ByteArray) (hr : rightF l = true) (ha : 0 ≤ fndF a) : getF l a = (gvF l a, 0) := by
  unfold getF gvF
  rw [if_pos hr, defF, if_pos ha]
  split <;> rfl
theorem getF_unknown (l : List S40) (a : ByteArray) (hr : rightF l = true) (ha : ¬ 0 ≤ fndF a) : getF l a = defF a := by
  unfold getF
  rw [if_pos hr, if_neg]
  intro h
  obtain ⟨x, hx, e⟩ := idxN_name a l h
  have := rightL_mem l _ hr x hx
  rw [fndF_congr e] at this
  exact ha this
theorem gvF_del (s a : ByteArray) (h : ¬ a.toList = s.toList) : ∀ l : List S40, gvF (delN s l) a = gvF l a
  | [] => rfl
  | x :: r => by
    have ih := gvF_del s a h r
    rw [delN_cons, gvF_cons]
    by_cases he : x.f0.toList = s.toList
    · rw [if_pos he, ih, if_neg (fun e => h (by rw [← e, he]))]
    · rw [if_neg he, gvF_cons, ih]
theorem gvF_del_self (s : ByteArray) : ∀ l : List S40, gvF (delN s l) s = (defF s).1
  | [] => by unfold gvF delN; rw [if_neg (by simp [idxN])]
  | x :: r => by
    have ih := gvF_del_self s r
    rw [delN_cons]
    by_cases he : x.f0.toList = s.toList
    · rw [if_pos he, ih]
    · rw [if_neg he, gvF_cons, if_neg he, ih]
theorem gvF_ins (x : S40) (a : ByteArray) (h : ¬ x.f0.toList = a.toList) (q : List S40) : ∀ p : List S40, gvF (p ++ x :: q) a = gvF (p ++ q) a
  | [] => by rw [List.nil_append, List.nil_append, gvF_cons, if_neg h]
  | y :: p => by rw [List.cons_append, List.cons_append, gvF_cons, gvF_cons, gvF_ins x a h q p]
theorem gvF_ins_self (x : S40) (q : List S40) : ∀ p : List S40, (∀ y ∈ p, ¬ y.f0.toList = x.f0.toList) → gvF (p ++ x :: q) x.f0 = x.f1
  | [], _ => by rw [List.nil_append, gvF_cons, if_pos rfl]
  | y :: p, h => by rw [List.cons_append, gvF_cons, if_neg (h y List.mem_cons_self), gvF_ins_self x q p (fun z hz => h z (List.mem_cons_of_mem _ hz))]
/-- What a variable is that was set; what every other one is. -/
theorem setF_val (l : List S40) (s v : ByteArray) (h1 : rightF l = true) (h2 : (formF s v).2 = 0) : (gvF (setF l s v).1 s).toList = (formF s v).1.toList ∧ ∀ a : ByteArray, ¬ a.toList = s.toList → gvF (setF l s v).1 a = gvF l a := by
  have h3 := (formF_ok h2).1
  unfold setF
  rw [if_pos h1, if_pos h2]
  by_cases h4 : (formF s v).1.toList = (stV (fndF s)).toList
  · rw [if_pos h4]
    refine ⟨?_, fun a ha => gvF_del s a ha l⟩
    show (gvF (delN s l) s).toList = _
    rw [gvF_del_self, defF, if_pos h3, h4]
  · rw [if_neg h4]
    have hsp := del_split s h3 l _ h1
    have hin : insS (fndF s) ⟨s, (formF s v).1⟩ (delN s l) = preV (fndF s) l ++ ⟨s, (formF s v).1⟩ :: sufV (fndF s) l := by rw [hsp, ins_split _ _ _ _ preV_lt sufV_lt]
    refine ⟨?_, fun a ha => ?_⟩
    · show (gvF (insS (fndF s) ⟨s, (formF s v).1⟩ (delN s l)) s).toList = _
      rw [hin]
      rw [gvF_ins_self ⟨s, (formF s v).1⟩ _ _ (fun y hy e => by
        have h5 := preV_lt y hy
        have h6 : fndF y.f0 = fndF s := fndF_congr e
        omega)]
    · show gvF (insS (fndF s) ⟨s, (formF s v).1⟩ (delN s l)) a = _
      rw [hin, gvF_ins _ a (fun e => ha e.symm), ← hsp, gvF_del s a ha]
theorem setF_no (l : List S40) (s v : ByteArray) (h : ¬ (setF l s v).2 = 0) : (setF l s v).1 = [] := by
  unfold setF at h ⊢
  split at h <;> rename_i h1
  · rw [if_pos h1]
    split at h <;> rename_i h2
    · split at h <;> exact absurd rfl h
    · rw [if_neg h2]
  · rw [if_neg h1]
theorem setF_yes (l : List S40) (s v : ByteArray) (h : (setF l s v).2 = 0) : rightF l = true ∧ (formF s v).2 = 0 := by
  unfold setF at h
  split at h <;> rename_i h1
  · split at h <;> rename_i h2
    · exact ⟨h1, h2⟩
    · exact absurd h h2
  · exact absurd h (by decide)
end Go.Proofs.YtefhngadeimklaaDoor.Q
end
section
namespace Go.Proofs.YtefhngadeimklaaDoor.Q
open Go.RowKit Go.Proofs.YtefhngadeimklaaDoorW.PrintWords Go.Proofs.YtefhngadeimklaaDoorW.PrintLast Go.Proofs.YtefhngadeimklaaDoorW.PrintMore
set_option linter.unusedVariables false
set_option linter.unusedSimpArgs false

attribute [local go_sem] max2_int min2_int max_two min_two max_three min_three max_four min_four
/-! ### tinderlaw19_VarsKeeps: function 6 -/
def tinderlaw19_VarsKeeps.j0 : Nat → List (S40) → ByteArray → List (S40) → Bool → ByteArray → ByteArray → Option (Bool)
  | 0, _, _, _, _, _, _ => none
  | k + 1, x0, x2, x7, x58, x7002000, x7002001 => if x58 = true then (some false) else (if x2.toList = x7002000.toList then (some true) else ((vars_Get.f k x0 x2).bind fun bt7011 => ((vars_Get.f k x7 x2).bind fun bt7013 => (if bt7011.1.toList = bt7013.1.toList then (some (bt7011.2 == bt7013.2)) else (some false)))))
def tinderlaw19_VarsKeeps.f (k : Nat) (l0 : List (S40)) (a1_0 : ByteArray) (a1_1 : ByteArray) (a2 : ByteArray) : Option (Bool) := (tinderlaw19_alive.f).bind fun t7002 => (if t7002 = true then ((vars_Set.f k l0 a1_0 a1_1).bind fun bt7003 => (if bt7003.2 = 0 then ((vars_Get.f k bt7003.1 a1_0).bind fun bt7007 => ((vars_Form.f k a1_0 a1_1).bind fun bt7009 => (if bt7007.1.toList = bt7009.1.toList then (if bt7007.2 = 0 then (tinderlaw19_VarsKeeps.j0 k l0 a2 bt7003.1 (bt7009.2 != 0) a1_0 a1_1) else (tinderlaw19_VarsKeeps.j0 k l0 a2 bt7003.1 true a1_0 a1_1)) else (tinderlaw19_VarsKeeps.j0 k l0 a2 bt7003.1 true a1_0 a1_1)))) else (some ((bt7003.1.length : Int) == 0)))) else (some false))
set_option maxHeartbeats 8000000 in
set_option maxRecDepth 100000 in
theorem tinderlaw19_VarsKeeps.calls (k : Nat) (A0 : Option Addr) (c0 : Nat) (l0 : List (S40)) (a1_0 : ByteArray) (a1_1 : ByteArray) (a2 : ByteArray) (r : Bool) (w : World) (ht : Tabs w) (hr0 : Kd.C k40 w A0 l0.length l0) (hc0 : l0.length ≤ c0) (h : tinderlaw19_VarsKeeps.f k l0 a1_0 a1_1 a2 = some r) :
    Calls Tryd.prog 6 #[.slice A0 l0.length c0, .agg #[.string a1_0, .string a1_1], .string a2] w fun e w' => e = .returned (.bool r) ∧ Below w.heap.size w w' := by
  have hu40 := Tryd.underlying40
  have HR0 := Aside0.mk hr0
  have HC0 := Aside0.mk hc0
  clear hr0 hc0
  have HB := Aside0.mk (Below.refl w.heap.size w)
  have H : ((tinderlaw19_alive.f).bind fun t7002 => (if t7002 = true then ((vars_Set.f k l0 a1_0 a1_1).bind fun bt7003 => (if bt7003.2 = 0 then ((vars_Get.f k bt7003.1 a1_0).bind fun bt7007 => ((vars_Form.f k a1_0 a1_1).bind fun bt7009 => (if bt7007.1.toList = bt7009.1.toList then (if bt7007.2 = 0 then (tinderlaw19_VarsKeeps.j0 k l0 a2 bt7003.1 (bt7009.2 != 0) a1_0 a1_1) else (tinderlaw19_VarsKeeps.j0 k l0 a2 bt7003.1 true a1_0 a1_1)) else (tinderlaw19_VarsKeeps.j0 k l0 a2 bt7003.1 true a1_0 a1_1)))) else (some ((bt7003.1.length : Int) == 0)))) else (some false))) = some r := h
  clear h
  replace H := Option.bind_eq_some_iff.mp H
  obtain ⟨t7002, A40, H⟩ := H
  replace H : (if t7002 = true then ((vars_Set.f k l0 a1_0 a1_1).bind fun bt7003 => (if bt7003.2 = 0 then ((vars_Get.f k bt7003.1 a1_0).bind fun bt7007 => ((vars_Form.f k a1_0 a1_1).bind fun bt7009 => (if bt7007.1.toList = bt7009.1.toList then (if bt7007.2 = 0 then (tinderlaw19_VarsKeeps.j0 k l0 a2 bt7003.1 (bt7009.2 != 0) a1_0 a1_1) else (tinderlaw19_VarsKeeps.j0 k l0 a2 bt7003.1 true a1_0 a1_1)) else (tinderlaw19_VarsKeeps.j0 k l0 a2 bt7003.1 true a1_0 a1_1)))) else (some ((bt7003.1.length : Int) == 0)))) else (some false)) = some r := H
  have A4 := Aside0.mk A40
  clear A40
  by_cases c5 : t7002 = true
  · subst c5
    have H1 : ((vars_Set.f k l0 a1_0 a1_1).bind fun bt7003 => (if bt7003.2 = 0 then ((vars_Get.f k bt7003.1 a1_0).bind fun bt7007 => ((vars_Form.f k a1_0 a1_1).bind fun bt7009 => (if bt7007.1.toList = bt7009.1.toList then (if bt7007.2 = 0 then (tinderlaw19_VarsKeeps.j0 k l0 a2 bt7003.1 (bt7009.2 != 0) a1_0 a1_1) else (tinderlaw19_VarsKeeps.j0 k l0 a2 bt7003.1 true a1_0 a1_1)) else (tinderlaw19_VarsKeeps.j0 k l0 a2 bt7003.1 true a1_0 a1_1)))) else (some ((bt7003.1.length : Int) == 0)))) = some r := by rw [if_pos rfl] at H; exact H
    clear H
    have H := H1
    clear H1
    replace H := Option.bind_eq_some_iff.mp H
    obtain ⟨⟨t7003, t7004⟩, A60, H⟩ := H
    replace H : (if t7004 = 0 then ((vars_Get.f k t7003 a1_0).bind fun bt7007 => ((vars_Form.f k a1_0 a1_1).bind fun bt7009 => (if bt7007.1.toList = bt7009.1.toList then (if bt7007.2 = 0 then (tinderlaw19_VarsKeeps.j0 k l0 a2 t7003 (bt7009.2 != 0) a1_0 a1_1) else (tinderlaw19_VarsKeeps.j0 k l0 a2 t7003 true a1_0 a1_1)) else (tinderlaw19_VarsKeeps.j0 k l0 a2 t7003 true a1_0 a1_1)))) else (some ((t7003.length : Int) == 0))) = some r := H
    have A6 := Aside0.mk A60
    clear A60
    by_cases c7 : t7004 = 0
    · rw [if_pos c7] at H
      have c7b0 : (t7004 == 0) = true := beq_iff_eq.mpr c7
      have c7b1 : (t7004 != 0) = false := bne_eq_false_iff_eq.mpr c7
      clear c7
      replace H := Option.bind_eq_some_iff.mp H
      obtain ⟨⟨t7007, t7008⟩, A80, H⟩ := H
      replace H : ((vars_Form.f k a1_0 a1_1).bind fun bt7009 => (if t7007.toList = bt7009.1.toList then (if t7008 = 0 then (tinderlaw19_VarsKeeps.j0 k l0 a2 t7003 (bt7009.2 != 0) a1_0 a1_1) else (tinderlaw19_VarsKeeps.j0 k l0 a2 t7003 true a1_0 a1_1)) else (tinderlaw19_VarsKeeps.j0 k l0 a2 t7003 true a1_0 a1_1))) = some r := H
      have A8 := Aside0.mk A80
      clear A80
      replace H := Option.bind_eq_some_iff.mp H
      obtain ⟨⟨t7009, t7010⟩, A90, H⟩ := H
      replace H : (if t7007.toList = t7009.toList then (if t7008 = 0 then (tinderlaw19_VarsKeeps.j0 k l0 a2 t7003 (t7010 != 0) a1_0 a1_1) else (tinderlaw19_VarsKeeps.j0 k l0 a2 t7003 true a1_0 a1_1)) else (tinderlaw19_VarsKeeps.j0 k l0 a2 t7003 true a1_0 a1_1)) = some r := H
      have A9 := Aside0.mk A90
      clear A90
      have HC10 := Aside0.mk H
      clear H
      go_enter Tryd.func6, Tryd.ntmps6
      go_upto_region 8 with (first | ((with_reducible refine gate_dst (N := 4) rfl ?_); refine box_event ?hg (N := 4) ?hd (cs := #[.string a1_0, .string a1_1]) (t := 40) ?hr ?_; (case hd => rfl); (case hg => rfl); (case hr => first | (go_simp; done) | (go_simp; rfl)); intro gb7001 hg w11 hbox hb; have n0_ := Aside0.mk (below_step (by repeat (first | (with_reducible first | exact HB.out | apply below_alloc | apply pw_below_drewN | apply below_drew1) | exact HB.out)) hb); have n1_ := Aside0.mk (hbox); have n2_ := Aside0.mk ((by rw [hg]; exact (below_size (by repeat (first | (with_reducible first | exact HB.out | apply below_alloc | apply pw_below_drewN | apply below_drew1) | exact HB.out))) : w.heap.size ≤ gb7001)); have n3_ := Aside0.mk ((by rw [hg]; exact (below_size (by repeat (first | (with_reducible first | exact HB.out | apply below_alloc | apply pw_below_drewN | apply below_drew1) | exact HB.out))) : w.heap.size ≤ gb7001)); clear HB; have HB := n0_; have BK7001 := n1_; have GW7001 := n2_; have GE7001 := n3_; clear n0_ n1_ n2_ n3_; clear hb hbox hg) | ((with_reducible refine gate_callee (f := 11) rfl ?_); refine goesL_ (some 17) rfl rfl Tryd.func11 (by kernel_rfl) rfl #[] rfl (by (try simp only [List.map_toArray, List.map_cons, List.map_nil]); first | done | rfl | (simp only [List.length_drop, List.length_take]; rfl)) ?_; (with_reducible refine (tinderlaw19_alive.calls  true _ (Tabs.below ht (by repeat (first | (with_reducible first | exact HB.out | apply below_alloc | apply pw_below_drewN | apply below_drew1 | refine below_set ?_ (Aside0.out (by assumption))) | exact HB.out))) A4.out).mono ?_); rintro e w12 ⟨rfl, hb⟩; refine ⟨_, rfl, ?_⟩; have n0_ := Aside0.mk (blk_below (g := gb7001) (o := .cells #[.string a1_0, .string a1_1] 40 (0, 0)) (by (with_reducible repeat (first | refine blk_drewN ?_ _ | refine blk_drew ?_ | refine blk_alloc ?_ _)); exact BK7001.out) hb); have n1_ := Aside0.mk (below_step (by repeat (first | (with_reducible first | exact HB.out | apply below_alloc | apply pw_below_drewN | apply below_drew1 | refine below_set ?_ GE7001.out) | exact HB.out)) hb); clear BK7001; clear HB; have BK7001 := n0_; have HB := n1_; clear n0_ n1_; (try clear hb); (try clear hb2); (try clear hk); (try clear hi); have hcz13_0 : w12.cell? ⟨gb7001, 0, none⟩ = some (.string a1_0) := (blk_cell BK7001.out 0).trans rfl; have hcz13_1 : w12.cell? ⟨gb7001, 1, none⟩ = some (.string a1_1) := (blk_cell BK7001.out 1).trans rfl; have hfz13_0 := blk_frozen BK7001.out 0; have hfz13_1 := blk_frozen BK7001.out 1) | ((with_reducible refine gate_callee (f := 13) rfl ?_); refine goesL_ (some 25) rfl rfl Tryd.func13 (by kernel_rfl) rfl #[.slice A0 l0.length c0, .string a1_0, .string a1_1] rfl (by (try simp only [List.map_toArray, List.map_cons, List.map_nil]); first | done | rfl | (simp only [List.length_drop, List.length_take]; rfl)) ?_; (with_reducible refine (vars_Set.calls k _ _ l0 a1_0 a1_1 t7003 t7004 _ (Tabs.below ht (by repeat (first | (with_reducible first | exact HB.out | apply below_alloc | apply pw_below_drewN | apply below_drew1 | refine below_set ?_ (Aside0.out (by assumption))) | exact HB.out))) ?side1 ?side2 A6.out).mono ?_); (case side1 => repeat (first | exact (Kd.C_below HR0.out HB.out) | (with_reducible refine Kd.C_alloc ?_ _) | (with_reducible refine Kd.C_drewN ?_ _) | (with_reducible refine Kd.C_drew ?_))); (case side2 => exact HC0.out); rintro e w14 ⟨v7005, rfl, ho0, hb⟩; refine ⟨_, rfl, ?_⟩; have n0_ := Aside0.mk (Kd.R_lower (Kd.R_newB ho0 (g := gb7001) (o := .cells #[.string a1_0, .string a1_1] 40 (0, 0)) (by (with_reducible repeat (first | refine blk_drewN ?_ _ | refine blk_drew ?_ | refine blk_alloc ?_ _)); exact BK7001.out)) (below_size (by repeat (first | (with_reducible first | exact HB.out | apply below_alloc | apply pw_below_drewN | apply below_drew1 | refine below_set ?_ GE7001.out) | exact HB.out)))); have n1_ := Aside0.mk (blk_below (g := gb7001) (o := .cells #[.string a1_0, .string a1_1] 40 (0, 0)) (by (with_reducible repeat (first | refine blk_drewN ?_ _ | refine blk_drew ?_ | refine blk_alloc ?_ _)); exact BK7001.out) hb); have n2_ := Aside0.mk (below_step (by repeat (first | (with_reducible first | exact HB.out | apply below_alloc | apply pw_below_drewN | apply below_drew1 | refine below_set ?_ GE7001.out) | exact HB.out)) hb); clear BK7001; clear HB; have HO7006 := n0_; have BK7001 := n1_; have HB := n2_; clear n0_ n1_ n2_; (try clear hb); (try clear hb2); (try clear hk); (try clear hi); (try clear ho0); have hcz15_0 : w14.cell? ⟨gb7001, 0, none⟩ = some (.string a1_0) := (blk_cell BK7001.out 0).trans rfl; have hcz15_1 : w14.cell? ⟨gb7001, 1, none⟩ = some (.string a1_1) := (blk_cell BK7001.out 1).trans rfl; have hfz15_0 := blk_frozen BK7001.out 0; have hfz15_1 := blk_frozen BK7001.out 1; obtain ⟨Ao16, co16, eo16⟩ := Kd.R_slice HO7006.out; subst eo16) | ((with_reducible refine gate_callee (f := 23) rfl ?_); refine goesL_ (some 37) rfl rfl Tryd.func23 (by kernel_rfl) rfl #[.slice Ao16 t7003.length co16, .string a1_0] rfl (by (try simp only [List.map_toArray, List.map_cons, List.map_nil]); first | done | rfl | (simp only [List.length_drop, List.length_take]; rfl)) ?_; (with_reducible refine (vars_Get.calls k _ _ t7003 a1_0 t7007 t7008 _ (Tabs.below ht (by repeat (first | (with_reducible first | exact HB.out | apply below_alloc | apply pw_below_drewN | apply below_drew1 | refine below_set ?_ (Aside0.out (by assumption))) | exact HB.out))) ?side1 ?side2 A8.out).mono ?_); (case side1 => repeat (first | exact (Kd.R_reads' HO7006.out).2.2 | (with_reducible refine Kd.C_alloc ?_ _) | (with_reducible refine Kd.C_drewN ?_ _) | (with_reducible refine Kd.C_drew ?_))); (case side2 => exact (Kd.R_reads' HO7006.out).2.1); rintro e w17 ⟨rfl, hb⟩; refine ⟨_, rfl, ?_⟩; have n0_ := Aside0.mk (Kd.R_below (by (with_reducible repeat (first | apply Kd.R_alloc | apply Kd.R_drewN | apply Kd.R_drew)); exact HO7006.out) hb); have n1_ := Aside0.mk (blk_below (g := gb7001) (o := .cells #[.string a1_0, .string a1_1] 40 (0, 0)) (by (with_reducible repeat (first | refine blk_drewN ?_ _ | refine blk_drew ?_ | refine blk_alloc ?_ _)); exact BK7001.out) hb); have n2_ := Aside0.mk (below_step (by repeat (first | (with_reducible first | exact HB.out | apply below_alloc | apply pw_below_drewN | apply below_drew1 | refine below_set ?_ GE7001.out) | exact HB.out)) hb); clear HO7006; clear BK7001; clear HB; have HO7006 := n0_; have BK7001 := n1_; have HB := n2_; clear n0_ n1_ n2_; (try clear hb); (try clear hb2); (try clear hk); (try clear hi); have hcz18_0 : w17.cell? ⟨gb7001, 0, none⟩ = some (.string a1_0) := (blk_cell BK7001.out 0).trans rfl; have hcz18_1 : w17.cell? ⟨gb7001, 1, none⟩ = some (.string a1_1) := (blk_cell BK7001.out 1).trans rfl; have hfz18_0 := blk_frozen BK7001.out 0; have hfz18_1 := blk_frozen BK7001.out 1) | ((with_reducible refine gate_callee (f := 17) rfl ?_); refine goesL_ (some 45) rfl rfl Tryd.func17 (by kernel_rfl) rfl #[.string a1_0, .string a1_1] rfl (by (try simp only [List.map_toArray, List.map_cons, List.map_nil]); first | done | rfl | (simp only [List.length_drop, List.length_take]; rfl)) ?_; (with_reducible refine (vars_Form.calls k a1_0 a1_1 t7009 t7010 _ (Tabs.below ht (by repeat (first | (with_reducible first | exact HB.out | apply below_alloc | apply pw_below_drewN | apply below_drew1 | refine below_set ?_ (Aside0.out (by assumption))) | exact HB.out))) A9.out).mono ?_); rintro e w19 ⟨rfl, hb⟩; refine ⟨_, rfl, ?_⟩; have n0_ := Aside0.mk (Kd.R_below (by (with_reducible repeat (first | apply Kd.R_alloc | apply Kd.R_drewN | apply Kd.R_drew)); exact HO7006.out) hb); have n1_ := Aside0.mk (blk_below (g := gb7001) (o := .cells #[.string a1_0, .string a1_1] 40 (0, 0)) (by (with_reducible repeat (first | refine blk_drewN ?_ _ | refine blk_drew ?_ | refine blk_alloc ?_ _)); exact BK7001.out) hb); have n2_ := Aside0.mk (below_step (by repeat (first | (with_reducible first | exact HB.out | apply below_alloc | apply pw_below_drewN | apply below_drew1 | refine below_set ?_ GE7001.out) | exact HB.out)) hb); clear HO7006; clear BK7001; clear HB; have HO7006 := n0_; have BK7001 := n1_; have HB := n2_; clear n0_ n1_ n2_; (try clear hb); (try clear hb2); (try clear hk); (try clear hi)))
      (try simp only [Act.put, List.setIfInBounds_toArray, List.set_cons_zero, List.set_cons_succ])
      go_cut [58] (fun v58 wc => ∃ (kq : Nat) (x58_9 : Bool), v58 = .bool x58_9 ∧ Aside0 (tinderlaw19_VarsKeeps.j0 kq l0 a2 t7003 x58_9 a1_0 a1_1 = some r) ∧ Aside0 (kq ≤ k) ∧ Aside0 (Kd.R k40 40 wc w.heap.size (fun k_ => k_ ≠ gb7001) (.slice Ao16 t7003.length co16) t7003) ∧ Aside0 (wc.heap[gb7001]? = some (.cells #[.string a1_0, .string a1_1] 40 (0, 0))) ∧ Aside0 (Below w.heap.size w wc))
      case first =>
        have H := HC10.out
        clear HC10
        by_cases c20 : t7007.toList = t7009.toList
        · rw [if_pos c20] at H
          have c20b0 : (t7007.toList == t7009.toList) = true := beq_iff_eq.mpr c20
          have c20b1 : (t7007.toList != t7009.toList) = false := bne_eq_false_iff_eq.mpr c20
          clear c20
          (first | rw [c20b0] | (simp only [i64_w, i32_w]; rw [c20b0]) | skip)
          by_cases c21 : t7008 = 0
          · rw [if_pos c21] at H
            have c21b0 : (t7008 == 0) = true := beq_iff_eq.mpr c21
            have c21b1 : (t7008 != 0) = false := bne_eq_false_iff_eq.mpr c21
            clear c21
            have H' := Aside0.mk H
            clear H
            go_wp2
            go_meet
            case rel => exact ⟨_, ((t7010 != 0)), (by first | rfl | (simp; done) | (simp [*]; done)), H', ⟨by first | omega | exact Nat.le_refl _⟩, ⟨by (with_reducible repeat (first | apply Kd.R_alloc | apply Kd.R_drewN | apply Kd.R_drew)); exact Kd.R_mono HO7006.out (fun _ hk => hk.2)⟩, ⟨by (with_reducible repeat (first | refine blk_drewN ?_ _ | refine blk_drew ?_ | refine blk_alloc ?_ _)); exact BK7001.out⟩, ⟨by repeat (first | (with_reducible first | exact HB.out | apply below_alloc | apply pw_below_drewN | apply below_drew1 | refine below_set ?_ GE7001.out) | exact HB.out)⟩⟩
          · rw [if_neg c21] at H
            have c21b0 : (t7008 == 0) = false := beq_eq_false_iff_ne.mpr c21
            have c21b1 : (t7008 != 0) = true := bne_iff_ne.mpr c21
            have H' := Aside0.mk H
            clear H
            go_wp2
            go_meet
            case rel => exact ⟨_, (true), (by first | rfl | (simp; done) | (simp [*]; done)), H', ⟨by first | omega | exact Nat.le_refl _⟩, ⟨by (with_reducible repeat (first | apply Kd.R_alloc | apply Kd.R_drewN | apply Kd.R_drew)); exact Kd.R_mono HO7006.out (fun _ hk => hk.2)⟩, ⟨by (with_reducible repeat (first | refine blk_drewN ?_ _ | refine blk_drew ?_ | refine blk_alloc ?_ _)); exact BK7001.out⟩, ⟨by repeat (first | (with_reducible first | exact HB.out | apply below_alloc | apply pw_below_drewN | apply below_drew1 | refine below_set ?_ GE7001.out) | exact HB.out)⟩⟩
        · rw [if_neg c20] at H
          have c20b0 : (t7007.toList == t7009.toList) = false := beq_eq_false_iff_ne.mpr c20
          have c20b1 : (t7007.toList != t7009.toList) = true := bne_iff_ne.mpr c20
          (first | rw [c20b0] | (simp only [i64_w, i32_w]; rw [c20b0]) | skip)
          have H' := Aside0.mk H
          clear H
          go_wp2
          go_meet
          case rel => exact ⟨_, (true), (by first | rfl | (simp; done) | (simp [*]; done)), H', ⟨by first | omega | exact Nat.le_refl _⟩, ⟨by (with_reducible repeat (first | apply Kd.R_alloc | apply Kd.R_drewN | apply Kd.R_drew)); exact Kd.R_mono HO7006.out (fun _ hk => hk.2)⟩, ⟨by (with_reducible repeat (first | refine blk_drewN ?_ _ | refine blk_drew ?_ | refine blk_alloc ?_ _)); exact BK7001.out⟩, ⟨by repeat (first | (with_reducible first | exact HB.out | apply below_alloc | apply pw_below_drewN | apply below_drew1 | refine below_set ?_ GE7001.out) | exact HB.out)⟩⟩
      case rest =>
        clear HC10
        try clear c1
        try clear c2
        try clear p2
        try clear c5
        try clear c6
        try clear c7
        try clear c7b0
        try clear c7b1
        try clear c11
        try clear c13
        try clear c17
        try clear c20
        try clear c20b0
        try clear c20b1
        try clear c21
        try clear c21b0
        try clear c21b1
        try clear hcz13_0
        try clear hcz13_1
        try clear hcz15_0
        try clear hcz15_1
        try clear hcz18_0
        try clear hcz18_1
        try clear hfz13_0
        try clear hfz13_1
        try clear hfz15_0
        try clear hfz15_1
        try clear hfz18_0
        try clear hfz18_1
        obtain ⟨kq, x58_9, rfl, HA, HJ9, HO_7, BK7001, HB⟩ := hcut
        cases kq with
        | zero => exact absurd HA.out (by simp [tinderlaw19_VarsKeeps.j0])
        | succ kj9 =>
          have H := HA.out
          clear HA
          simp only [tinderlaw19_VarsKeeps.j0] at H
          by_cases c22 : x58_9 = true
          · subst c22
            have H1 : (some false) = some r := by rw [if_pos rfl] at H; exact H
            clear H
            have H := H1
            clear H1
            obtain rfl := Option.some.inj H
            go_wp2
            go_ret
            exact ⟨by first | rfl | (simp [errW_none, errW_some] <;> rfl) | (simp [*, errW_none, errW_some] <;> rfl), by repeat (first | (with_reducible first | exact HB.out | apply below_alloc | apply pw_below_drewN | apply below_drew1 | refine below_set ?_ GE7001.out) | exact HB.out)⟩
          · replace c22 := Bool.eq_false_iff.mpr c22
            subst c22
            have H1 : (if a2.toList = a1_0.toList then (some true) else ((vars_Get.f kj9 l0 a2).bind fun bt7011 => ((vars_Get.f kj9 t7003 a2).bind fun bt7013 => (if bt7011.1.toList = bt7013.1.toList then (some (bt7011.2 == bt7013.2)) else (some false))))) = some r := by rw [if_neg (show ¬ (false = true) by decide)] at H; exact H
            clear H
            have H := H1
            clear H1
            by_cases c23 : a2.toList = a1_0.toList
            · rw [if_pos c23] at H
              have c23b0 : (a2.toList == a1_0.toList) = true := beq_iff_eq.mpr c23
              have c23b1 : (a2.toList != a1_0.toList) = false := bne_eq_false_iff_eq.mpr c23
              clear c23
              obtain rfl := Option.some.inj H
              have hcz24_0 : wc.cell? ⟨gb7001, 0, none⟩ = some (.string a1_0) := (blk_cell BK7001.out 0).trans rfl
              have hcz24_1 : wc.cell? ⟨gb7001, 1, none⟩ = some (.string a1_1) := (blk_cell BK7001.out 1).trans rfl
              have hfz24_0 := blk_frozen BK7001.out 0
              have hfz24_1 := blk_frozen BK7001.out 1
              go_wp2
              go_ret
              exact ⟨by first | rfl | (simp [errW_none, errW_some] <;> rfl) | (simp [*, errW_none, errW_some] <;> rfl), by repeat (first | (with_reducible first | exact HB.out | apply below_alloc | apply pw_below_drewN | apply below_drew1 | refine below_set ?_ GE7001.out) | exact HB.out)⟩
            · rw [if_neg c23] at H
              have c23b0 : (a2.toList == a1_0.toList) = false := beq_eq_false_iff_ne.mpr c23
              have c23b1 : (a2.toList != a1_0.toList) = true := bne_iff_ne.mpr c23
              replace H := Option.bind_eq_some_iff.mp H
              obtain ⟨⟨t7011, t7012⟩, A250, H⟩ := H
              replace H : ((vars_Get.f kj9 t7003 a2).bind fun bt7013 => (if t7011.toList = bt7013.1.toList then (some (t7012 == bt7013.2)) else (some false))) = some r := H
              have A25 := Aside0.mk A250
              clear A250
              replace H := Option.bind_eq_some_iff.mp H
              obtain ⟨⟨t7013, t7014⟩, A260, H⟩ := H
              replace H : (if t7011.toList = t7013.toList then (some (t7012 == t7014)) else (some false)) = some r := H
              have A26 := Aside0.mk A260
              clear A260
              by_cases c27 : t7011.toList = t7013.toList
              · rw [if_pos c27] at H
                have c27b0 : (t7011.toList == t7013.toList) = true := beq_iff_eq.mpr c27
                have c27b1 : (t7011.toList != t7013.toList) = false := bne_eq_false_iff_eq.mpr c27
                clear c27
                obtain rfl := Option.some.inj H
                have hcz28_0 : wc.cell? ⟨gb7001, 0, none⟩ = some (.string a1_0) := (blk_cell BK7001.out 0).trans rfl
                have hcz28_1 : wc.cell? ⟨gb7001, 1, none⟩ = some (.string a1_1) := (blk_cell BK7001.out 1).trans rfl
                have hfz28_0 := blk_frozen BK7001.out 0
                have hfz28_1 := blk_frozen BK7001.out 1
                go_wp2_with (first | ((with_reducible refine gate_callee (f := 23) rfl ?_); refine goesL_ (some 66) rfl rfl Tryd.func23 (by kernel_rfl) rfl #[.slice A0 l0.length c0, .string a2] rfl (by (try simp only [List.map_toArray, List.map_cons, List.map_nil]); first | done | rfl | (simp only [List.length_drop, List.length_take]; rfl)) ?_; (with_reducible refine (vars_Get.calls kj9 _ _ l0 a2 t7011 t7012 _ (Tabs.below ht (by repeat (first | (with_reducible first | exact HB.out | apply below_alloc | apply pw_below_drewN | apply below_drew1 | refine below_set ?_ (Aside0.out (by assumption))) | exact HB.out))) ?side1 ?side2 A25.out).mono ?_); (case side1 => repeat (first | exact (Kd.C_below HR0.out HB.out) | (with_reducible refine Kd.C_alloc ?_ _) | (with_reducible refine Kd.C_drewN ?_ _) | (with_reducible refine Kd.C_drew ?_))); (case side2 => exact HC0.out); rintro e w29 ⟨rfl, hb⟩; refine ⟨_, rfl, ?_⟩; have n0_ := Aside0.mk (Kd.R_below (by (with_reducible repeat (first | apply Kd.R_alloc | apply Kd.R_drewN | apply Kd.R_drew)); exact HO_7.out) hb); have n1_ := Aside0.mk (blk_below (g := gb7001) (o := .cells #[.string a1_0, .string a1_1] 40 (0, 0)) (by (with_reducible repeat (first | refine blk_drewN ?_ _ | refine blk_drew ?_ | refine blk_alloc ?_ _)); exact BK7001.out) hb); have n2_ := Aside0.mk (below_step (by repeat (first | (with_reducible first | exact HB.out | apply below_alloc | apply pw_below_drewN | apply below_drew1 | refine below_set ?_ GE7001.out) | exact HB.out)) hb); clear HO_7; clear BK7001; clear HB; have HO_7 := n0_; have BK7001 := n1_; have HB := n2_; clear n0_ n1_ n2_; (try clear hb); (try clear hb2); (try clear hk); (try clear hi)) | ((with_reducible refine gate_callee (f := 23) rfl ?_); refine goesL_ (some 72) rfl rfl Tryd.func23 (by kernel_rfl) rfl #[.slice Ao16 t7003.length co16, .string a2] rfl (by (try simp only [List.map_toArray, List.map_cons, List.map_nil]); first | done | rfl | (simp only [List.length_drop, List.length_take]; rfl)) ?_; (with_reducible refine (vars_Get.calls kj9 _ _ t7003 a2 t7013 t7014 _ (Tabs.below ht (by repeat (first | (with_reducible first | exact HB.out | apply below_alloc | apply pw_below_drewN | apply below_drew1 | refine below_set ?_ (Aside0.out (by assumption))) | exact HB.out))) ?side1 ?side2 A26.out).mono ?_); (case side1 => repeat (first | exact (Kd.R_reads' HO_7.out).2.2 | (with_reducible refine Kd.C_alloc ?_ _) | (with_reducible refine Kd.C_drewN ?_ _) | (with_reducible refine Kd.C_drew ?_))); (case side2 => exact (Kd.R_reads' HO_7.out).2.1); rintro e w30 ⟨rfl, hb⟩; refine ⟨_, rfl, ?_⟩; have n0_ := Aside0.mk (Kd.R_below (by (with_reducible repeat (first | apply Kd.R_alloc | apply Kd.R_drewN | apply Kd.R_drew)); exact HO_7.out) hb); have n1_ := Aside0.mk (blk_below (g := gb7001) (o := .cells #[.string a1_0, .string a1_1] 40 (0, 0)) (by (with_reducible repeat (first | refine blk_drewN ?_ _ | refine blk_drew ?_ | refine blk_alloc ?_ _)); exact BK7001.out) hb); have n2_ := Aside0.mk (below_step (by repeat (first | (with_reducible first | exact HB.out | apply below_alloc | apply pw_below_drewN | apply below_drew1 | refine below_set ?_ GE7001.out) | exact HB.out)) hb); clear HO_7; clear BK7001; clear HB; have HO_7 := n0_; have BK7001 := n1_; have HB := n2_; clear n0_ n1_ n2_; (try clear hb); (try clear hb2); (try clear hk); (try clear hi)))
                go_ret
                exact ⟨by first | rfl | (simp [errW_none, errW_some] <;> rfl) | (simp [*, errW_none, errW_some] <;> rfl), by repeat (first | (with_reducible first | exact HB.out | apply below_alloc | apply pw_below_drewN | apply below_drew1 | refine below_set ?_ GE7001.out) | exact HB.out)⟩
              · rw [if_neg c27] at H
                have c27b0 : (t7011.toList == t7013.toList) = false := beq_eq_false_iff_ne.mpr c27
                have c27b1 : (t7011.toList != t7013.toList) = true := bne_iff_ne.mpr c27
                obtain rfl := Option.some.inj H
                have hcz31_0 : wc.cell? ⟨gb7001, 0, none⟩ = some (.string a1_0) := (blk_cell BK7001.out 0).trans rfl
                have hcz31_1 : wc.cell? ⟨gb7001, 1, none⟩ = some (.string a1_1) := (blk_cell BK7001.out 1).trans rfl
                have hfz31_0 := blk_frozen BK7001.out 0
                have hfz31_1 := blk_frozen BK7001.out 1
                go_wp2_with (first | ((with_reducible refine gate_callee (f := 23) rfl ?_); refine goesL_ (some 66) rfl rfl Tryd.func23 (by kernel_rfl) rfl #[.slice A0 l0.length c0, .string a2] rfl (by (try simp only [List.map_toArray, List.map_cons, List.map_nil]); first | done | rfl | (simp only [List.length_drop, List.length_take]; rfl)) ?_; (with_reducible refine (vars_Get.calls kj9 _ _ l0 a2 t7011 t7012 _ (Tabs.below ht (by repeat (first | (with_reducible first | exact HB.out | apply below_alloc | apply pw_below_drewN | apply below_drew1 | refine below_set ?_ (Aside0.out (by assumption))) | exact HB.out))) ?side1 ?side2 A25.out).mono ?_); (case side1 => repeat (first | exact (Kd.C_below HR0.out HB.out) | (with_reducible refine Kd.C_alloc ?_ _) | (with_reducible refine Kd.C_drewN ?_ _) | (with_reducible refine Kd.C_drew ?_))); (case side2 => exact HC0.out); rintro e w32 ⟨rfl, hb⟩; refine ⟨_, rfl, ?_⟩; have n0_ := Aside0.mk (Kd.R_below (by (with_reducible repeat (first | apply Kd.R_alloc | apply Kd.R_drewN | apply Kd.R_drew)); exact HO_7.out) hb); have n1_ := Aside0.mk (blk_below (g := gb7001) (o := .cells #[.string a1_0, .string a1_1] 40 (0, 0)) (by (with_reducible repeat (first | refine blk_drewN ?_ _ | refine blk_drew ?_ | refine blk_alloc ?_ _)); exact BK7001.out) hb); have n2_ := Aside0.mk (below_step (by repeat (first | (with_reducible first | exact HB.out | apply below_alloc | apply pw_below_drewN | apply below_drew1 | refine below_set ?_ GE7001.out) | exact HB.out)) hb); clear HO_7; clear BK7001; clear HB; have HO_7 := n0_; have BK7001 := n1_; have HB := n2_; clear n0_ n1_ n2_; (try clear hb); (try clear hb2); (try clear hk); (try clear hi)) | ((with_reducible refine gate_callee (f := 23) rfl ?_); refine goesL_ (some 72) rfl rfl Tryd.func23 (by kernel_rfl) rfl #[.slice Ao16 t7003.length co16, .string a2] rfl (by (try simp only [List.map_toArray, List.map_cons, List.map_nil]); first | done | rfl | (simp only [List.length_drop, List.length_take]; rfl)) ?_; (with_reducible refine (vars_Get.calls kj9 _ _ t7003 a2 t7013 t7014 _ (Tabs.below ht (by repeat (first | (with_reducible first | exact HB.out | apply below_alloc | apply pw_below_drewN | apply below_drew1 | refine below_set ?_ (Aside0.out (by assumption))) | exact HB.out))) ?side1 ?side2 A26.out).mono ?_); (case side1 => repeat (first | exact (Kd.R_reads' HO_7.out).2.2 | (with_reducible refine Kd.C_alloc ?_ _) | (with_reducible refine Kd.C_drewN ?_ _) | (with_reducible refine Kd.C_drew ?_))); (case side2 => exact (Kd.R_reads' HO_7.out).2.1); rintro e w33 ⟨rfl, hb⟩; refine ⟨_, rfl, ?_⟩; have n0_ := Aside0.mk (Kd.R_below (by (with_reducible repeat (first | apply Kd.R_alloc | apply Kd.R_drewN | apply Kd.R_drew)); exact HO_7.out) hb); have n1_ := Aside0.mk (blk_below (g := gb7001) (o := .cells #[.string a1_0, .string a1_1] 40 (0, 0)) (by (with_reducible repeat (first | refine blk_drewN ?_ _ | refine blk_drew ?_ | refine blk_alloc ?_ _)); exact BK7001.out) hb); have n2_ := Aside0.mk (below_step (by repeat (first | (with_reducible first | exact HB.out | apply below_alloc | apply pw_below_drewN | apply below_drew1 | refine below_set ?_ GE7001.out) | exact HB.out)) hb); clear HO_7; clear BK7001; clear HB; have HO_7 := n0_; have BK7001 := n1_; have HB := n2_; clear n0_ n1_ n2_; (try clear hb); (try clear hb2); (try clear hk); (try clear hi)))
                go_ret
                exact ⟨by first | rfl | (simp [errW_none, errW_some] <;> rfl) | (simp [*, errW_none, errW_some] <;> rfl), by repeat (first | (with_reducible first | exact HB.out | apply below_alloc | apply pw_below_drewN | apply below_drew1 | refine below_set ?_ GE7001.out) | exact HB.out)⟩
    · rw [if_neg c7] at H
      have c7b0 : (t7004 == 0) = false := beq_eq_false_iff_ne.mpr c7
      have c7b1 : (t7004 != 0) = true := bne_iff_ne.mpr c7
      obtain rfl := Option.some.inj H
      go_enter Tryd.func6, Tryd.ntmps6
      go_wp2_with (first | ((with_reducible refine gate_dst (N := 4) rfl ?_); refine box_event ?hg (N := 4) ?hd (cs := #[.string a1_0, .string a1_1]) (t := 40) ?hr ?_; (case hd => rfl); (case hg => rfl); (case hr => first | (go_simp; done) | (go_simp; rfl)); intro gb7001 hg w34 hbox hb; have n0_ := Aside0.mk (below_step (by repeat (first | (with_reducible first | exact HB.out | apply below_alloc | apply pw_below_drewN | apply below_drew1) | exact HB.out)) hb); have n1_ := Aside0.mk (hbox); have n2_ := Aside0.mk ((by rw [hg]; exact (below_size (by repeat (first | (with_reducible first | exact HB.out | apply below_alloc | apply pw_below_drewN | apply below_drew1) | exact HB.out))) : w.heap.size ≤ gb7001)); have n3_ := Aside0.mk ((by rw [hg]; exact (below_size (by repeat (first | (with_reducible first | exact HB.out | apply below_alloc | apply pw_below_drewN | apply below_drew1) | exact HB.out))) : w.heap.size ≤ gb7001)); clear HB; have HB := n0_; have BK7001 := n1_; have GW7001 := n2_; have GE7001 := n3_; clear n0_ n1_ n2_ n3_; clear hb hbox hg) | ((with_reducible refine gate_callee (f := 11) rfl ?_); refine goesL_ (some 17) rfl rfl Tryd.func11 (by kernel_rfl) rfl #[] rfl (by (try simp only [List.map_toArray, List.map_cons, List.map_nil]); first | done | rfl | (simp only [List.length_drop, List.length_take]; rfl)) ?_; (with_reducible refine (tinderlaw19_alive.calls  true _ (Tabs.below ht (by repeat (first | (with_reducible first | exact HB.out | apply below_alloc | apply pw_below_drewN | apply below_drew1 | refine below_set ?_ (Aside0.out (by assumption))) | exact HB.out))) A4.out).mono ?_); rintro e w35 ⟨rfl, hb⟩; refine ⟨_, rfl, ?_⟩; have n0_ := Aside0.mk (blk_below (g := gb7001) (o := .cells #[.string a1_0, .string a1_1] 40 (0, 0)) (by (with_reducible repeat (first | refine blk_drewN ?_ _ | refine blk_drew ?_ | refine blk_alloc ?_ _)); exact BK7001.out) hb); have n1_ := Aside0.mk (below_step (by repeat (first | (with_reducible first | exact HB.out | apply below_alloc | apply pw_below_drewN | apply below_drew1 | refine below_set ?_ GE7001.out) | exact HB.out)) hb); clear BK7001; clear HB; have BK7001 := n0_; have HB := n1_; clear n0_ n1_; (try clear hb); (try clear hb2); (try clear hk); (try clear hi); have hcz36_0 : w35.cell? ⟨gb7001, 0, none⟩ = some (.string a1_0) := (blk_cell BK7001.out 0).trans rfl; have hcz36_1 : w35.cell? ⟨gb7001, 1, none⟩ = some (.string a1_1) := (blk_cell BK7001.out 1).trans rfl; have hfz36_0 := blk_frozen BK7001.out 0; have hfz36_1 := blk_frozen BK7001.out 1) | ((with_reducible refine gate_callee (f := 13) rfl ?_); refine goesL_ (some 25) rfl rfl Tryd.func13 (by kernel_rfl) rfl #[.slice A0 l0.length c0, .string a1_0, .string a1_1] rfl (by (try simp only [List.map_toArray, List.map_cons, List.map_nil]); first | done | rfl | (simp only [List.length_drop, List.length_take]; rfl)) ?_; (with_reducible refine (vars_Set.calls k _ _ l0 a1_0 a1_1 t7003 t7004 _ (Tabs.below ht (by repeat (first | (with_reducible first | exact HB.out | apply below_alloc | apply pw_below_drewN | apply below_drew1 | refine below_set ?_ (Aside0.out (by assumption))) | exact HB.out))) ?side1 ?side2 A6.out).mono ?_); (case side1 => repeat (first | exact (Kd.C_below HR0.out HB.out) | (with_reducible refine Kd.C_alloc ?_ _) | (with_reducible refine Kd.C_drewN ?_ _) | (with_reducible refine Kd.C_drew ?_))); (case side2 => exact HC0.out); rintro e w37 ⟨v7005, rfl, ho0, hb⟩; refine ⟨_, rfl, ?_⟩; have n0_ := Aside0.mk (Kd.R_lower (Kd.R_newB ho0 (g := gb7001) (o := .cells #[.string a1_0, .string a1_1] 40 (0, 0)) (by (with_reducible repeat (first | refine blk_drewN ?_ _ | refine blk_drew ?_ | refine blk_alloc ?_ _)); exact BK7001.out)) (below_size (by repeat (first | (with_reducible first | exact HB.out | apply below_alloc | apply pw_below_drewN | apply below_drew1 | refine below_set ?_ GE7001.out) | exact HB.out)))); have n1_ := Aside0.mk (blk_below (g := gb7001) (o := .cells #[.string a1_0, .string a1_1] 40 (0, 0)) (by (with_reducible repeat (first | refine blk_drewN ?_ _ | refine blk_drew ?_ | refine blk_alloc ?_ _)); exact BK7001.out) hb); have n2_ := Aside0.mk (below_step (by repeat (first | (with_reducible first | exact HB.out | apply below_alloc | apply pw_below_drewN | apply below_drew1 | refine below_set ?_ GE7001.out) | exact HB.out)) hb); clear BK7001; clear HB; have HO7006 := n0_; have BK7001 := n1_; have HB := n2_; clear n0_ n1_ n2_; (try clear hb); (try clear hb2); (try clear hk); (try clear hi); (try clear ho0); obtain ⟨Ao38, co38, eo38⟩ := Kd.R_slice HO7006.out; subst eo38))
      go_ret
      exact ⟨by first | rfl | (simp [errW_none, errW_some] <;> rfl) | (simp [*, errW_none, errW_some] <;> rfl), by repeat (first | (with_reducible first | exact HB.out | apply below_alloc | apply pw_below_drewN | apply below_drew1 | refine below_set ?_ GE7001.out) | exact HB.out)⟩
  · replace c5 := Bool.eq_false_iff.mpr c5
    subst c5
    have H1 : (some false) = some r := by rw [if_neg (show ¬ (false = true) by decide)] at H; exact H
    clear H
    have H := H1
    clear H1
    obtain rfl := Option.some.inj H
    go_enter Tryd.func6, Tryd.ntmps6
    go_wp2_with (first | ((with_reducible refine gate_dst (N := 4) rfl ?_); refine box_event ?hg (N := 4) ?hd (cs := #[.string a1_0, .string a1_1]) (t := 40) ?hr ?_; (case hd => rfl); (case hg => rfl); (case hr => first | (go_simp; done) | (go_simp; rfl)); intro gb7001 hg w39 hbox hb; have n0_ := Aside0.mk (below_step (by repeat (first | (with_reducible first | exact HB.out | apply below_alloc | apply pw_below_drewN | apply below_drew1) | exact HB.out)) hb); have n1_ := Aside0.mk (hbox); have n2_ := Aside0.mk ((by rw [hg]; exact (below_size (by repeat (first | (with_reducible first | exact HB.out | apply below_alloc | apply pw_below_drewN | apply below_drew1) | exact HB.out))) : w.heap.size ≤ gb7001)); have n3_ := Aside0.mk ((by rw [hg]; exact (below_size (by repeat (first | (with_reducible first | exact HB.out | apply below_alloc | apply pw_below_drewN | apply below_drew1) | exact HB.out))) : w.heap.size ≤ gb7001)); clear HB; have HB := n0_; have BK7001 := n1_; have GW7001 := n2_; have GE7001 := n3_; clear n0_ n1_ n2_ n3_; clear hb hbox hg) | ((with_reducible refine gate_callee (f := 11) rfl ?_); refine goesL_ (some 17) rfl rfl Tryd.func11 (by kernel_rfl) rfl #[] rfl (by (try simp only [List.map_toArray, List.map_cons, List.map_nil]); first | done | rfl | (simp only [List.length_drop, List.length_take]; rfl)) ?_; (with_reducible refine (tinderlaw19_alive.calls  false _ (Tabs.below ht (by repeat (first | (with_reducible first | exact HB.out | apply below_alloc | apply pw_below_drewN | apply below_drew1 | refine below_set ?_ (Aside0.out (by assumption))) | exact HB.out))) A4.out).mono ?_); rintro e w40 ⟨rfl, hb⟩; refine ⟨_, rfl, ?_⟩; have n0_ := Aside0.mk (blk_below (g := gb7001) (o := .cells #[.string a1_0, .string a1_1] 40 (0, 0)) (by (with_reducible repeat (first | refine blk_drewN ?_ _ | refine blk_drew ?_ | refine blk_alloc ?_ _)); exact BK7001.out) hb); have n1_ := Aside0.mk (below_step (by repeat (first | (with_reducible first | exact HB.out | apply below_alloc | apply pw_below_drewN | apply below_drew1 | refine below_set ?_ GE7001.out) | exact HB.out)) hb); clear BK7001; clear HB; have BK7001 := n0_; have HB := n1_; clear n0_ n1_; (try clear hb); (try clear hb2); (try clear hk); (try clear hi)))
    go_ret
    exact ⟨by first | rfl | (simp [errW_none, errW_some] <;> rfl) | (simp [*, errW_none, errW_some] <;> rfl), by repeat (first | (with_reducible first | exact HB.out | apply below_alloc | apply pw_below_drewN | apply below_drew1 | refine below_set ?_ GE7001.out) | exact HB.out)⟩

end Go.Proofs.YtefhngadeimklaaDoor.Q
end
section
set_option linter.unusedSimpArgs false
set_option linter.unusedVariables false
namespace Go.Proofs.YtefhngadeimklaaDoor.Q
open Go.RowKit Go.Proofs.YtefhngadeimklaaDoorW.PrintWords Go.Proofs.YtefhngadeimklaaDoorW.PrintLast
theorem varsKeeps_row {w : World} (ht : Tabs w) (A : Option Addr) (c : Nat) (l : List S40) (hC : Kd.C k40 w A l.length l) (hc : l.length ≤ c) (hg : l.length * 32 ≤ 140737488351232 ∧ ∀ x ∈ l, x.f0.size ≤ 140737488351232 ∧ x.f1.size ≤ 140737488351232) (s : ByteArray) (hs : s.size ≤ 140737488351232) (v : ByteArray) (hv : v.size ≤ 140737488351232) (o : ByteArray) (ho : o.size ≤ 140737488351232) :
    Calls Tryd.prog 6 #[.slice A l.length c, .agg #[.string s, .string v], .string o] w fun e w' => e = .returned (.bool true) ∧ Below w.heap.size w w' := by
  refine tinderlaw19_VarsKeeps.calls (l.length + 140737488352000) A c l s v o true w ht hC hc ?_
  have hf : Fits l := hg.2
  have hl : l.length < 1125899906842624 := by omega
  have hm := setF_small l s v
  have hmf := setF_fits l hf s v hs hv
  unfold tinderlaw19_VarsKeeps.f
  rw [tinderlaw19_alive.f, Option.bind_some, if_pos rfl, set_eq l s v hf hl hv _ (by omega), Option.bind_some]
  by_cases h0 : (setF l s v).2 = 0
  · obtain ⟨h1, h2⟩ := setF_yes l s v h0
    have h3 := (formF_ok h2).1
    have hR := setF_right l s v hv h0
    obtain ⟨hv1, hv2⟩ := setF_val l s v h1 h2
    rw [if_pos h0, get_eq _ s hmf (by omega) _ (by omega), Option.bind_some, form_eq _ s v hv (by omega), Option.bind_some, getF_known _ s hR h3, if_pos hv1, if_pos rfl, h2]
    rw [show l.length + 140737488352000 = (l.length + 140737488351999) + 1 from rfl, tinderlaw19_VarsKeeps.j0, if_neg (by decide)]
    by_cases h4 : o.toList = s.toList
    · rw [if_pos h4]
    · rw [if_neg h4, get_eq l o hf hl _ (by omega), Option.bind_some, get_eq _ o hmf (by omega) _ (by omega), Option.bind_some]
      have e : getF (setF l s v).1 o = getF l o := by
        by_cases h5 : 0 ≤ fndF o
        · rw [getF_known _ o hR h5, getF_known l o h1 h5, hv2 o h4]
        · rw [getF_unknown _ o hR h5, getF_unknown l o h1 h5]
      rw [e, if_pos rfl, beq_self_eq_true]
  · rw [if_neg h0, setF_no l s v h0]
    rfl
theorem varsKeeps_rowA {w : World} (ht : Tabs w) (A : Option Addr) (c : Nat) (l : List S40) (hC : Kd.C k40 w A l.length l) (hc : l.length ≤ c) (hg : l.length * 32 ≤ 140737488351232 ∧ ∀ x ∈ l, x.f0.size ≤ 140737488351232 ∧ x.f1.size ≤ 140737488351232) (cs : Array Value) (z : S40) (hz : k40.K w z cs.toList) (hgz : z.f0.size ≤ 140737488351232 ∧ z.f1.size ≤ 140737488351232) (o : ByteArray) (ho : o.size ≤ 140737488351232) :
    Calls Tryd.prog 6 #[.slice A l.length c, .agg cs, .string o] w fun e w' => e = .returned (.bool true) ∧ Below w.heap.size w w' := by
  have e : cs = #[.string z.f0, .string z.f1] := Array.toList_inj.1 (k40_open hz)
  subst e
  exact varsKeeps_row ht A c l hC hc hg z.f0 hgz.1 z.f1 hgz.2 o ho
end Go.Proofs.YtefhngadeimklaaDoor.Q
end
section
namespace Go.Proofs.YtefhngadeimklaaDoor.Q
open Go.RowKit Go.Proofs.YtefhngadeimklaaDoorW.PrintWords Go.Proofs.YtefhngadeimklaaDoorW.PrintLast Go.Proofs.YtefhngadeimklaaDoorW.PrintMore
def Opens {α : Type} (P : Program) (t : TypeId) (d : Kd α) (G : α → Prop) : Prop :=
  ∀ (H : Type) (enc : TypeId × Value → H) (W : World) (fuel : Nat) (cs : List Value) (x : DataW H × List MemPlace), DataW.trod enc P W 0 (fun _ => true) true fuel t cs = some x → (∀ n ∈ x.1.weights P t, n ≤ reachBytes) → ∃ a, d.K W a cs ∧ G a
section
variable {P : Program} {t e : TypeId}
theorem opens_string (ht : P.underlying t = some .string) : Opens P t Kd.string (fun s => s.size ≤ 140737488351232) := by
  intro H enc W fuel cs x h hw
  obtain ⟨s, rfl, rfl, _⟩ := DataW.trod_string ht h
  have := hw s.data.toList.length (by simp [DataW.weights])
  exact ⟨s, rfl, by simpa [reachBytes] using this⟩
theorem weights_all {H : Type} {P : Program} {e : TypeId} : ∀ {l : List (DataW H)} {d : DataW H}, d ∈ l → ∀ n ∈ d.weights P e, n ∈ DataW.weightsAll P e l
  | d0 :: l, d, hd, n, hn => by
    simp only [DataW.weightsAll, List.mem_append]
    rcases List.mem_cons.1 hd with rfl | hd
    · exact .inl hn
    · exact .inr (weights_all hd n hn)
theorem cells_get {W : World} {base : Nat} {a : Addr} {n : Nat} {c : List Value} (h : W.cells? base a n = some c) : c.length = n ∧ ∀ i u, c[i]? = some u → W.cell? (a.add i) = some u := by
  unfold World.cells? at h
  split at h
  · have hl := mapM_some_length h
    refine ⟨by simpa using hl, fun i u hu => ?_⟩
    have hi : i < n := by
      have := (List.getElem?_eq_some_iff.1 hu).1
      simp at hl
      omega
    have := mapM_some_get h i i (by simp [hi])
    rw [this, hu]
  · cases h
theorem opens_slice {α : Type} {d : Kd α} {G : α → Prop} (ht : P.underlying t = some (.slice e)) (hc : P.cellsOf e = d.sz) (b : Nat) (hb : P.bytesOf e = b) (he : Opens P e d G) :
    Opens P t (Kd.slice e d) (fun xs => xs.length * b ≤ 140737488351232 ∧ ∀ a ∈ xs, G a) := by
  intro H enc W fuel cs x h hw
  rcases DataW.trod_slice ht h with ⟨rfl, _⟩ | ⟨a, len, cap, elems, rest, n, _, rfl, rfl, _, hl, hm, hlen, hel, _⟩
  · exact ⟨[], ⟨none, 0, rfl, Nat.le_refl _, Kd.C_nil d W⟩, by simp, fun a h => by cases h⟩
  · have hwt : (elems.length + rest.length) * b ≤ 140737488351232 := by
      have := hw ((elems.length + rest.length) * P.bytesOf e) (by simp [DataW.weights, ht])
      rw [hb] at this
      simpa [reachBytes] using this
    have hall : ∀ i : Fin len, ∃ p : α, ∃ c, c.length = d.sz ∧ d.K W p c ∧ G p ∧ ∀ j u, c[j]? = some u → W.cell? (a.add (i.1 * d.sz + j)) = some u := by
      intro i
      have hi : i.1 < elems.length := by have := i.2; omega
      have h1 := hel i.1 i.2
      rw [List.getElem?_eq_getElem hi] at h1
      obtain ⟨c, hcs, htr⟩ := Option.bind_eq_some_iff.1 h1
      obtain ⟨hcl, hcg⟩ := cells_get hcs
      obtain ⟨p, hK, hG⟩ := he H enc W n c _ htr (fun m hm => hw m (by
        simp only [DataW.weights, ht, List.mem_cons, List.mem_append]
        exact .inr (.inl (weights_all (List.mem_map.2 ⟨_, List.getElem_mem hi, rfl⟩) m hm))))
      refine ⟨p, c, by rw [hcl, hc], hK, hG, fun j u hu => ?_⟩
      have := hcg j u hu
      rw [add_add, hc] at this
      exact this
    refine ⟨List.ofFn fun i => Classical.choose (hall i), ⟨some a, cap, by simp, by simpa using hl, by simp, by simp only [maxLen] at hm; simp; omega, fun _ => ⟨a, rfl, fun j p hj => ?_⟩⟩, ?_, ?_⟩
    · obtain ⟨hjl, hjp⟩ := List.getElem?_eq_some_iff.1 hj
      simp only [List.length_ofFn] at hjl
      have h2 := Classical.choose_spec (hall ⟨j, hjl⟩)
      rw [List.getElem_ofFn] at hjp
      rw [hjp] at h2
      obtain ⟨c, h3, h4, _, h6⟩ := h2
      exact ⟨c, h3, h4, h6⟩
    · rw [List.length_ofFn]
      refine Nat.le_trans (Nat.mul_le_mul_right b ?_) hwt
      omega
    · intro p hp
      obtain ⟨i, rfl⟩ := (List.mem_ofFn).1 hp
      obtain ⟨_, _, _, h5, _⟩ := Classical.choose_spec (hall i)
      exact h5
/-- The fields of a struct from one on, one behind the other. -/
def OpensFields {α : Type} (P : Program) (fs : List Field) (off : Nat) (d : Kd α) (G : α → Prop) : Prop :=
  ∀ (H : Type) (enc : TypeId × Value → H) (W : World) (fuel : Nat) (cs : List Value) (xs : List (DataW H × List MemPlace)), off + d.sz = cs.length → xs.length = fs.length →
    (∀ (i : Nat) (f : Field), fs[i]? = some f → DataW.trod enc P W 0 (fun _ => true) true fuel f.type ((cs.drop f.offset).take (P.cellsOf f.type)) = xs[i]?) →
    (∀ n ∈ DataW.weightsEach P (fs.map (·.type)) (xs.map (·.1)), n ≤ reachBytes) → ∃ a, d.K W a (cs.drop off) ∧ G a
theorem opens_one {α : Type} {d : Kd α} {G : α → Prop} {f : Field} {off : Nat} (ho : f.offset = off) (hc : P.cellsOf f.type = d.sz) (he : Opens P f.type d G) : OpensFields P [f] off d G := by
  intro H enc W fuel cs xs hl hx hf hw
  match xs, hx with
  | [x], _ =>
    have h0 := hf 0 f rfl
    rw [ho, hc, List.take_of_length_le (by rw [List.length_drop]; omega)] at h0
    exact he H enc W fuel _ x h0 (fun n hn => hw n (by simpa [DataW.weightsEach] using hn))
theorem opens_more {α β : Type} {d : Kd α} {d2 : Kd β} {G : α → Prop} {G2 : β → Prop} {f : Field} {fs : List Field} {off : Nat} (ho : f.offset = off) (hc : P.cellsOf f.type = d.sz) (he : Opens P f.type d G) (hs : OpensFields P fs (off + d.sz) d2 G2) :
    OpensFields P (f :: fs) off (Kd.pair d d2) (fun p => G p.1 ∧ G2 p.2) := by
  intro H enc W fuel cs xs hl hx hf hw
  have hl' : off + (d.sz + d2.sz) = cs.length := hl
  match xs, hx with
  | x :: xs, hx =>
    have h0 := hf 0 f rfl
    rw [ho, hc] at h0
    obtain ⟨a, h1, h2⟩ := he H enc W fuel _ x h0 (fun n hn => hw n (by simp only [List.map_cons, DataW.weightsEach, List.mem_append]; exact .inl hn))
    obtain ⟨b, h3, h4⟩ := hs H enc W fuel cs xs (by omega) (by simpa using hx) (fun i g hg => by simpa using hf (i + 1) g (by simpa using hg)) (fun n hn => hw n (by simp only [List.map_cons, DataW.weightsEach, List.mem_append]; exact .inr hn))
    refine ⟨(a, b), ⟨_, _, ?_, h1, h3⟩, h2, h4⟩
    rw [← List.drop_drop, List.take_append_drop]
theorem opens_struct {α : Type} {d : Kd α} {G : α → Prop} {fs : Array Field} (ht : P.underlying t = some (.struct fs)) (hc : P.cellsOf t = d.sz) (hf : OpensFields P fs.toList 0 d G) : Opens P t d G := by
  intro H enc W fuel cs x h hw
  obtain ⟨xs, n, _, rfl, hl, hlen, hg⟩ := DataW.trod_struct ht h
  have := hf H enc W n cs xs (by omega) (by simpa using hlen) (fun i f hi => hg i f (by simpa using hi)) (fun m hm => hw m (by simpa [DataW.weights, ht] using hm))
  simpa using this
theorem opens_iso {α β : Type} {d : Kd α} {G : α → Prop} (f : β → α) (g : α → β) (hfg : ∀ a, f (g a) = a) (h : Opens P t d G) : Opens P t (Kd.iso d f) (fun b => G (f b)) := by
  intro H enc W fuel cs x hx hw
  obtain ⟨a, h1, h2⟩ := h H enc W fuel cs x hx hw
  exact ⟨g a, by show d.K W (f (g a)) cs; rw [hfg]; exact h1, by show G (f (g a)); rw [hfg]; exact h2⟩
theorem weights_each {H : Type} {P : Program} {ts : List TypeId} {ds : List (DataW H)} (h : (DataW.weightsEach P ts ds).all (· ≤ reachBytes) = true) {j : Nat} {t : TypeId} {d : DataW H} (ht : ts[j]? = some t) (hd : ds[j]? = some d) : ∀ n ∈ d.weights P t, n ≤ reachBytes := fun n hn => by
  simpa using List.all_eq_true.1 h _ (DataW.weights_mem_each ht hd n hn)
end
end Go.Proofs.YtefhngadeimklaaDoor.Q
end
